/- Part 5 of the proof of ChangeOrder: C18, Spec15, C19, C20, C21, EngClr, EngStW, Spec16, C22, C23, C24, Spec17, C25, C26. -/
import Derived.Deep.Quiet
import Derived.Ground.NamesProg
import Derived.Ground.SlgcProg
import Derived.Ground.SlsfProg
import Derived.JoinedOf
import Derived.Laws.BytesString
import Derived.Laws.MakeOwn
import Derived.Laws.Strings
import Derived.Lib.AppendZeros
import Derived.Lib.ConvBytes
import Derived.Lib.Overlaps
import Derived.Maps.AppendAt
import Derived.OrdersHeld
import Derived.ProofKit
import Derived.Recover
import Derived.ScopeJumps
import Derived.Shelf.SlSortCmp.NoneTotal
import Derived.Shelf.SlSortCmp.WholeK
import Derived.Shelf.SlicesG.Cmp
import Derived.Shelf.Small.Bits
import Derived.Sort.OwnSortedInts
import Derived.StillTail
import Derived.Test.YtfokljnhllflbaaGreatProg
import Derived.WalkKit
import Derived.WalkLawsBesides
import Derived.WalkSpells
import Derived.Test.YtfokljnhllflbaaGreatPChangeOrder3
set_option linter.unusedSimpArgs false
set_option linter.unusedVariables false
namespace Go.Proofs.YtfokljnhllflbaaGreat
open Go Go.Eng Go.RowKit
set_option maxHeartbeats 400000 in
set_option maxRecDepth 20000 in
theorem crow (w : World) (B : Nat) (l : List Entry) (A : Option Addr) (n c : Nat) (fr : Int) (hr : Rd w B 11 A (ents l)) (hB : B ≤ w.heap.size) (hn : n = l.length) (hm : n ≤ 1099511627776) : Ret Tryz.prog 88 [(.slice A n c), (.int .i64 fr)] w (fun v w' => v = .bool (follB l fr) ∧ w.grownBy w' none) := by
  have H0 : Sp [Fix w NoB] w := Sp.start w
  refine Ret.body Tryz.func88 rfl rfl rfl ?_
  refine CW.seq (CW.region ?_)
  refine RL.go rfl rfl rfl (Ex.as (v := (.bool false)) rfl) ?_
  refine RL.nil (thn.n (CW.seq (CW.seq (CW.region ?_))))
  refine RL.go rfl rfl rfl (Ex.mv (v := (.slice A n c)) rfl) ?_
  refine RL.go rfl rfl rfl (Ex.len Tryz.underlying22 rfl) ?_
  refine RL.go rfl rfl rfl (Ex.mv (v := (.int .i64 0)) rfl) ?_
  refine RL.nil (thn.n (CW.block ?_))
  refine CW.loop (fun t => (Nat.ble 4 t && Nat.ble t 6) || (Nat.ble 9 t && Nat.ble t 21)) (fun nL ρ wl => ∃ (k : Nat), ρ 9 = (.int .i64 (k : Int)) ∧ nL = n - k ∧ Sp [Fix w NoB] wl ∧ k ≤ n ∧ follB (l.take k) fr = true) (n) ?aa0 ?bb0
  case aa0 =>
   exact ⟨0, rfl, rfl, H0, Nat.zero_le _, rfl⟩
  case bb0 =>
   rintro n2 ρ0 w1 ho3 ⟨k, hs0_9, hn0, H4, hk, hf⟩
   obtain ⟨j0, rfl⟩ := ho3.shape1 hs0_9
   clear ho3 hs0_9
   subst hn0
   have z5 := (H4.fix (i := 0) rfl).size
   refine CW.seq (CW.region ?_)
   refine RL.br (p := ((k : Int) : Int) < ((n : Nat) : Int)) rfl rfl rfl (fun r hr => Ex.lt rfl rfl hr) (fun h6 => ?_) (fun h6 => ?_)
   ·skip
    refine RL.nil (thn.n (CW.seq (CW.condT rfl (CW.skip (thn.n (CW.seq (CW.block (CW.seq (CW.region ?_)))))))))
    refine RL.go rfl rfl rfl (Ex.mv (v := (.int .i64 (k : Int))) rfl) ?_
    obtain ⟨e7, he8⟩ : ∃ e, (l)[k]? = some e := ⟨_, List.getElem?_eq_getElem (by omega)⟩
    obtain ⟨ad9, hA10⟩ := Rd.sm (hr.st0 (H4.fix (i := 0) rfl)) (ents_get he8)
    have hl11 := Eng.lt_len (ents_get he8)
    refine RL.go rfl rfl rfl (Ex.ix (b := (ad9.add (k * 11))) (i := k) Tryz.underlying22 Tryz.sizeOf31 (by rw [← hA10]; rfl) rfl (by omega) (by omega) rfl) ?_
    refine RL.go rfl rfl rfl (Ex.ldv rfl (loadCN (cs := e7.cells) wh31 (Rd.cl (hr.st0 (H4.fix (i := 0) rfl)) hA10 (ents_get he8)))) ?_
    refine RL.al (cs := [(.int .i64 0), (.int .i64 0), (.int .i64 0), (.int .i64 0), (.int .i64 0), (.int .i64 0), (.int .i64 0), (.int .i64 0), (.int .i64 0), (.int .i64 0), (.int .i64 0)]) Tryz.zeroValue31 rfl rfl rfl ?_
    intro w12 b13 hb14 hz15 g16 o17
    have H18 := H4.newB g16 o17 (by omega)
    have z19 := g16.size
    refine RL.go rfl rfl rfl (Ex.as (v := (.int .i64 (k : Int))) rfl) ?_
    refine RL.st (vs := e7.cells) (cs' := e7.cells) Tryz.sizeOf31 (H18.ob (i := 0) rfl) rfl rfl rfl rfl rfl rfl ?_
    intro w20 hz21 g22 o23
    have H24 : Sp [BlkA b13 31 e7.cells, Fix w NoB] w20 := H18.setB (i := 0) rfl g22 o23 rfl
    have z25 := g22.size
    refine RL.nil (thn.n (CW.seq (CW.region ?_)))
    refine RL.go rfl rfl rfl (fa31_0 (b := ⟨b13, 0, none⟩) rfl rfl) ?_
    refine RL.go rfl rfl rfl (Ex.ldv rfl (loadC1 lo3 (Ob.cell (v := (.int .i64 e7.num)) (H24.ob (i := 0) rfl) rfl))) ?_
    refine RL.go rfl rfl rfl (Ex.sub_ (r := IntKind.i64.wrap (e7.num - 1)) rfl rfl rfl) ?_
    refine RL.go rfl rfl rfl (Ex.mv (v := (.int .i64 (k : Int))) rfl) ?_
    refine RL.go rfl rfl rfl (Ex.sub_ (r := IntKind.i64.wrap ((IntKind.i64.wrap (e7.num - 1)) - (k : Int))) rfl rfl rfl) ?_
    refine RL.go rfl rfl rfl (Ex.mv (v := (.int .i64 fr)) rfl) ?_
    refine RL.br (p := (IntKind.i64.wrap ((IntKind.i64.wrap (e7.num - 1)) - (k : Int)) : Int) ≠ (fr : Int)) rfl rfl rfl (fun r hr => Ex.neD rfl rfl hr) (fun h26 => ?_) (fun h26 => ?_)
    ·skip
     refine RL.nil (thn.n (CW.condT rfl (CW.seq (CW.region ?_))))
     refine RL.go rfl rfl rfl (Ex.as (v := (.bool false)) rfl) ?_
     refine RL.nil (thn.n (CW.ret (inB.r (thn.r (thn.r (inB.r (thn.r ?_)))))))
     refine finQ.r (v := (.bool false)) (res1 rfl rfl) ?_
     exact ⟨ret_bool (by unfold follB; rw [allI_stop he8 0]; simpa using h26), (H24.fix (i := 1) rfl)⟩
    ·skip
     refine RL.nil (thn.n (CW.condF rfl (CW.skip (inB.n (thn.n (CW.region ?_))))))
     refine RL.go rfl rfl rfl (Ex.add (r := (k : Int) + 1) rfl rfl (w64 (by omega) (by omega))) ?_
     refine RL.go rfl rfl rfl (Ex.mv (v := (.int .i64 ((k : Int) + 1))) rfl) ?_
     refine RL.nil (thn.n ?_)
     refine ⟨(by repeat (first | exact Out.mix _ _ | exact Out.refl _ _ | refine Out.up ?_ rfl _)), _, ?_, k + 1, rfl, rfl, (H24.sel [1] (by decide) rfl), by omega, by unfold follB at *; rw [allI_take he8 0, hf]; simp only [Nat.zero_add, Bool.true_and, decide_eq_true_eq]; exact Decidable.not_not.1 h26⟩
     omega
   ·skip
    refine RL.nil (thn.n (CW.seq (CW.condF rfl (CW.exit (thn.x (thn.x (inB.hit (thn.n (CW.seq (CW.region ?_))))))))))
    refine RL.go rfl rfl rfl (Ex.as (v := (.bool true)) rfl) ?_
    refine RL.nil (thn.n (CW.ret ?_))
    refine finQ.r (v := (.bool true)) (res1 rfl rfl) ?_
    exact ⟨ret_bool (by rw [← hf, List.take_of_length_le (by omega)]), (H4.fix (i := 0) rfl)⟩
end Go.Proofs.YtfokljnhllflbaaGreat
namespace Go.Eng
open Go
def tl1 : List Entry := [entR 1]
def tl3 : List Entry := [entR 1, entR 2, entR 3]
def tk3 : Kept := ⟨0, 0, 0, newBytes 3, tl3⟩
end Go.Eng
namespace Go.Proofs.YtfokljnhllflbaaGreat
open Go Go.Eng Go.RowKit
set_option maxHeartbeats 1000000 in
set_option maxRecDepth 20000 in
theorem row17_1 (w : World)  : Ret Tryz.prog 93 [(.int .i64 1)] w (fun v w' => ∃ (A' : Option Addr) (c' : Nat), v = .slice A' 1 c' ∧ Sp ([RowA 31 11 A' 1 c' (ents tl1)] ++ [Fix w NoB]) w') := by
  have H0 : Sp [Fix w NoB] w := Sp.start w
  refine Ret.body Tryz.func93 rfl rfl rfl ?_
  refine CW.seq (CW.region ?_)
  refine RL.go rfl rfl rfl (Ex.as (v := (.slice none 0 0)) rfl) ?_
  refine RL.nil (thn.n (CW.seq (CW.region ?_)))
  refine RL.go rfl rfl rfl (Ex.as (v := (.slice none 0 0)) rfl) ?_
  refine RL.nil (thn.n (CW.seq (CW.seq (CW.region ?_))))
  refine RL.go rfl rfl rfl (Ex.as (v := (.int .i64 1)) rfl) ?_
  refine RL.nil (thn.n (CW.block ?_))
  refine CW.unroll ?_
  refine CL.step ?_
  refine CW.seq (CW.seq ?_)
  refine CW.region ?_
  refine RL.go rfl rfl rfl (Ex.mv (v := (.int .i64 1)) rfl) ?_
  refine RL.go rfl rfl rfl (Ex.mv (v := (.int .i64 1)) rfl) ?_
  refine RL.go rfl rfl rfl (Ex.le (r := true) rfl rfl (by decide)) ?_
  refine RL.nil (thn.n (CW.condT rfl (CW.skip (thn.n (CW.seq (CW.block (CW.region ?_)))))))
  refine RL.go rfl rfl rfl (Ex.mv (v := (.slice none 0 0)) rfl) ?_
  refine RL.go rfl rfl rfl (Ex.mv (v := (.int .i64 1)) rfl) ?_
  refine RL.go rfl rfl rfl (Ex.bd (cs := [(.int .i64 1), (.int .i64 0), (.int .i64 0), (.int .i64 0), (.int .i64 0), (.int .i64 0), (.int .i64 0), (.int .i64 0), (.int .i64 0), (.int .i64 0), (.int .i64 0)]) bd31 rfl) ?_
  refine RL.bs (cs := [(.int .i64 1), (.int .i64 0), (.int .i64 0), (.int .i64 0), (.int .i64 0), (.int .i64 0), (.int .i64 0), (.int .i64 0), (.int .i64 0), (.int .i64 0), (.int .i64 0)]) Tryz.underlying22 Tryz.sizeOf31 ze22 rfl rfl rfl (by decide) rfl rfl rfl ?_
  intro w1 b2 hb3 hz4 g5 o6
  have H7 := H0.newB g5 o6 (by omega)
  have z8 := g5.size
  have H9 := H7.nil_ 31 11
  refine RL.apW (base := 0) (xss := (ents [])) (yss := (ents ([(⟨1, 0, 0, 0, ⟨0, 0, 0, 0, 0, 0, 0⟩⟩ : Entry)]))) el22 (H9.wr (i := 0) rfl) rfl (Ob.rd1 (H9.ob (i := 1) rfl) rfl) rfl (by simp only [bcs_length, ics_length, rows_length, blks_length, robjs_length, ents_length, List.length_append, List.length_cons, List.length_nil, List.length_take, List.length_drop, List.length_map, enc4, enc8, encN_len, encW_len, recsE_length]; try omega) (ents_one _) (by omega) (by omega) (by omega) rfl rfl ?_
  intro w10 A11 c12 g13 ow14 nx15
  have H16 : Sp [RowA 31 11 A11 (0 + 1) c12 (ents ([(⟨1, 0, 0, 0, ⟨0, 0, 0, 0, 0, 0, 0⟩⟩ : Entry)])), BlkA b2 31 [(.int .i64 1), (.int .i64 0), (.int .i64 0), (.int .i64 0), (.int .i64 0), (.int .i64 0), (.int .i64 0), (.int .i64 0), (.int .i64 0), (.int .i64 0), (.int .i64 0)], Fix w NoB] w10 := H9.setR (i := 0) rfl g13 ((List.nil_append _) ▸ ow14) nx15 rfl
  have z17 := g13.size
  refine RL.go rfl rfl rfl (Ex.as (v := (.slice A11 (0 + 1) c12)) rfl) ?_
  refine RL.nil (inB.n (thn.n (CW.region ?_)))
  refine RL.go rfl rfl rfl (Ex.mv (v := (.int .i64 1)) rfl) ?_
  refine RL.go rfl rfl rfl (Ex.add (r := 2) rfl rfl rfl) ?_
  refine RL.go rfl rfl rfl (Ex.as (v := (.int .i64 2)) rfl) ?_
  refine RL.nil (thn.n ?_)
  refine CL.step ?_
  refine CW.seq (CW.seq ?_)
  refine CW.region ?_
  refine RL.go rfl rfl rfl (Ex.mv (v := (.int .i64 2)) rfl) ?_
  refine RL.go rfl rfl rfl (Ex.mv (v := (.int .i64 1)) rfl) ?_
  refine RL.go rfl rfl rfl (Ex.le (r := false) rfl rfl (by decide)) ?_
  refine RL.nil (thn.n (CW.condF rfl (CW.exit (thn.x (thn.x (inB.hit (thn.n (CW.seq (CW.region ?_)))))))))
  refine RL.go rfl rfl rfl (Ex.mv (v := (.slice A11 (0 + 1) c12)) rfl) ?_
  refine RL.go rfl rfl rfl (Ex.as (v := (.slice A11 (0 + 1) c12)) rfl) ?_
  refine RL.nil (thn.n (CW.ret ?_))
  refine finQ.r (v := (.slice A11 (0 + 1) c12)) (res1 rfl rfl) ?_
  exact ⟨_, _, rfl, (H16.sel [0, 2] (by decide) rfl)⟩
set_option maxHeartbeats 1000000 in
set_option maxRecDepth 20000 in
theorem row17_3 (w : World)  : Ret Tryz.prog 93 [(.int .i64 3)] w (fun v w' => ∃ (A' : Option Addr) (c' : Nat), v = .slice A' 3 c' ∧ Sp ([RowA 31 11 A' 3 c' (ents tl3)] ++ [Fix w NoB]) w') := by
  have H0 : Sp [Fix w NoB] w := Sp.start w
  refine Ret.body Tryz.func93 rfl rfl rfl ?_
  refine CW.seq (CW.region ?_)
  refine RL.go rfl rfl rfl (Ex.as (v := (.slice none 0 0)) rfl) ?_
  refine RL.nil (thn.n (CW.seq (CW.region ?_)))
  refine RL.go rfl rfl rfl (Ex.as (v := (.slice none 0 0)) rfl) ?_
  refine RL.nil (thn.n (CW.seq (CW.seq (CW.region ?_))))
  refine RL.go rfl rfl rfl (Ex.as (v := (.int .i64 1)) rfl) ?_
  refine RL.nil (thn.n (CW.block ?_))
  refine CW.unroll ?_
  refine CL.step ?_
  refine CW.seq (CW.seq ?_)
  refine CW.region ?_
  refine RL.go rfl rfl rfl (Ex.mv (v := (.int .i64 1)) rfl) ?_
  refine RL.go rfl rfl rfl (Ex.mv (v := (.int .i64 3)) rfl) ?_
  refine RL.go rfl rfl rfl (Ex.le (r := true) rfl rfl (by decide)) ?_
  refine RL.nil (thn.n (CW.condT rfl (CW.skip (thn.n (CW.seq (CW.block (CW.region ?_)))))))
  refine RL.go rfl rfl rfl (Ex.mv (v := (.slice none 0 0)) rfl) ?_
  refine RL.go rfl rfl rfl (Ex.mv (v := (.int .i64 1)) rfl) ?_
  refine RL.go rfl rfl rfl (Ex.bd (cs := [(.int .i64 1), (.int .i64 0), (.int .i64 0), (.int .i64 0), (.int .i64 0), (.int .i64 0), (.int .i64 0), (.int .i64 0), (.int .i64 0), (.int .i64 0), (.int .i64 0)]) bd31 rfl) ?_
  refine RL.bs (cs := [(.int .i64 1), (.int .i64 0), (.int .i64 0), (.int .i64 0), (.int .i64 0), (.int .i64 0), (.int .i64 0), (.int .i64 0), (.int .i64 0), (.int .i64 0), (.int .i64 0)]) Tryz.underlying22 Tryz.sizeOf31 ze22 rfl rfl rfl (by decide) rfl rfl rfl ?_
  intro w1 b2 hb3 hz4 g5 o6
  have H7 := H0.newB g5 o6 (by omega)
  have z8 := g5.size
  have H9 := H7.nil_ 31 11
  refine RL.apW (base := 0) (xss := (ents [])) (yss := (ents ([(⟨1, 0, 0, 0, ⟨0, 0, 0, 0, 0, 0, 0⟩⟩ : Entry)]))) el22 (H9.wr (i := 0) rfl) rfl (Ob.rd1 (H9.ob (i := 1) rfl) rfl) rfl (by simp only [bcs_length, ics_length, rows_length, blks_length, robjs_length, ents_length, List.length_append, List.length_cons, List.length_nil, List.length_take, List.length_drop, List.length_map, enc4, enc8, encN_len, encW_len, recsE_length]; try omega) (ents_one _) (by omega) (by omega) (by omega) rfl rfl ?_
  intro w10 A11 c12 g13 ow14 nx15
  have H16 : Sp [RowA 31 11 A11 (0 + 1) c12 (ents ([(⟨1, 0, 0, 0, ⟨0, 0, 0, 0, 0, 0, 0⟩⟩ : Entry)])), BlkA b2 31 [(.int .i64 1), (.int .i64 0), (.int .i64 0), (.int .i64 0), (.int .i64 0), (.int .i64 0), (.int .i64 0), (.int .i64 0), (.int .i64 0), (.int .i64 0), (.int .i64 0)], Fix w NoB] w10 := H9.setR (i := 0) rfl g13 ((List.nil_append _) ▸ ow14) nx15 rfl
  have z17 := g13.size
  refine RL.go rfl rfl rfl (Ex.as (v := (.slice A11 (0 + 1) c12)) rfl) ?_
  refine RL.nil (inB.n (thn.n (CW.region ?_)))
  refine RL.go rfl rfl rfl (Ex.mv (v := (.int .i64 1)) rfl) ?_
  refine RL.go rfl rfl rfl (Ex.add (r := 2) rfl rfl rfl) ?_
  refine RL.go rfl rfl rfl (Ex.as (v := (.int .i64 2)) rfl) ?_
  refine RL.nil (thn.n ?_)
  refine CL.step ?_
  refine CW.seq (CW.seq ?_)
  refine CW.region ?_
  refine RL.go rfl rfl rfl (Ex.mv (v := (.int .i64 2)) rfl) ?_
  refine RL.go rfl rfl rfl (Ex.mv (v := (.int .i64 3)) rfl) ?_
  refine RL.go rfl rfl rfl (Ex.le (r := true) rfl rfl (by decide)) ?_
  refine RL.nil (thn.n (CW.condT rfl (CW.skip (thn.n (CW.seq (CW.block (CW.region ?_)))))))
  refine RL.go rfl rfl rfl (Ex.mv (v := (.slice A11 (0 + 1) c12)) rfl) ?_
  refine RL.go rfl rfl rfl (Ex.mv (v := (.int .i64 2)) rfl) ?_
  refine RL.go rfl rfl rfl (Ex.bd (cs := [(.int .i64 2), (.int .i64 0), (.int .i64 0), (.int .i64 0), (.int .i64 0), (.int .i64 0), (.int .i64 0), (.int .i64 0), (.int .i64 0), (.int .i64 0), (.int .i64 0)]) bd31 rfl) ?_
  refine RL.bs (cs := [(.int .i64 2), (.int .i64 0), (.int .i64 0), (.int .i64 0), (.int .i64 0), (.int .i64 0), (.int .i64 0), (.int .i64 0), (.int .i64 0), (.int .i64 0), (.int .i64 0)]) Tryz.underlying22 Tryz.sizeOf31 ze22 rfl rfl rfl (by decide) rfl rfl rfl ?_
  intro w18 b19 hb20 hz21 g22 o23
  have H24 := H16.newB g22 o23 (by omega)
  have z25 := g22.size
  refine RL.apW (base := 0) (xss := (ents ([(⟨1, 0, 0, 0, ⟨0, 0, 0, 0, 0, 0, 0⟩⟩ : Entry)]))) (yss := (ents ([(⟨2, 0, 0, 0, ⟨0, 0, 0, 0, 0, 0, 0⟩⟩ : Entry)]))) el22 (H24.wr (i := 1) rfl) rfl (Ob.rd1 (H24.ob (i := 0) rfl) rfl) rfl (by simp only [bcs_length, ics_length, rows_length, blks_length, robjs_length, ents_length, List.length_append, List.length_cons, List.length_nil, List.length_take, List.length_drop, List.length_map, enc4, enc8, encN_len, encW_len, recsE_length]; try omega) (ents_one _) (by omega) (by omega) (by omega) rfl rfl ?_
  intro w26 A27 c28 g29 ow30 nx31
  have H32 : Sp [BlkA b19 31 [(.int .i64 2), (.int .i64 0), (.int .i64 0), (.int .i64 0), (.int .i64 0), (.int .i64 0), (.int .i64 0), (.int .i64 0), (.int .i64 0), (.int .i64 0), (.int .i64 0)], RowA 31 11 A27 ((0 + 1) + 1) c28 (ents ([(⟨1, 0, 0, 0, ⟨0, 0, 0, 0, 0, 0, 0⟩⟩ : Entry)] ++ [(⟨2, 0, 0, 0, ⟨0, 0, 0, 0, 0, 0, 0⟩⟩ : Entry)])), BlkA b2 31 [(.int .i64 1), (.int .i64 0), (.int .i64 0), (.int .i64 0), (.int .i64 0), (.int .i64 0), (.int .i64 0), (.int .i64 0), (.int .i64 0), (.int .i64 0), (.int .i64 0)], Fix w NoB] w26 := H24.setR (i := 1) rfl g29 ((ents_app _ _).symm ▸ ow30) nx31 rfl
  have z33 := g29.size
  refine RL.go rfl rfl rfl (Ex.as (v := (.slice A27 ((0 + 1) + 1) c28)) rfl) ?_
  refine RL.nil (inB.n (thn.n (CW.region ?_)))
  refine RL.go rfl rfl rfl (Ex.mv (v := (.int .i64 2)) rfl) ?_
  refine RL.go rfl rfl rfl (Ex.add (r := 3) rfl rfl rfl) ?_
  refine RL.go rfl rfl rfl (Ex.as (v := (.int .i64 3)) rfl) ?_
  refine RL.nil (thn.n ?_)
  refine CL.step ?_
  refine CW.seq (CW.seq ?_)
  refine CW.region ?_
  refine RL.go rfl rfl rfl (Ex.mv (v := (.int .i64 3)) rfl) ?_
  refine RL.go rfl rfl rfl (Ex.mv (v := (.int .i64 3)) rfl) ?_
  refine RL.go rfl rfl rfl (Ex.le (r := true) rfl rfl (by decide)) ?_
  refine RL.nil (thn.n (CW.condT rfl (CW.skip (thn.n (CW.seq (CW.block (CW.region ?_)))))))
  refine RL.go rfl rfl rfl (Ex.mv (v := (.slice A27 ((0 + 1) + 1) c28)) rfl) ?_
  refine RL.go rfl rfl rfl (Ex.mv (v := (.int .i64 3)) rfl) ?_
  refine RL.go rfl rfl rfl (Ex.bd (cs := [(.int .i64 3), (.int .i64 0), (.int .i64 0), (.int .i64 0), (.int .i64 0), (.int .i64 0), (.int .i64 0), (.int .i64 0), (.int .i64 0), (.int .i64 0), (.int .i64 0)]) bd31 rfl) ?_
  refine RL.bs (cs := [(.int .i64 3), (.int .i64 0), (.int .i64 0), (.int .i64 0), (.int .i64 0), (.int .i64 0), (.int .i64 0), (.int .i64 0), (.int .i64 0), (.int .i64 0), (.int .i64 0)]) Tryz.underlying22 Tryz.sizeOf31 ze22 rfl rfl rfl (by decide) rfl rfl rfl ?_
  intro w34 b35 hb36 hz37 g38 o39
  have H40 := H32.newB g38 o39 (by omega)
  have z41 := g38.size
  refine RL.apW (base := 0) (xss := (ents ([(⟨1, 0, 0, 0, ⟨0, 0, 0, 0, 0, 0, 0⟩⟩ : Entry)] ++ [(⟨2, 0, 0, 0, ⟨0, 0, 0, 0, 0, 0, 0⟩⟩ : Entry)]))) (yss := (ents ([(⟨3, 0, 0, 0, ⟨0, 0, 0, 0, 0, 0, 0⟩⟩ : Entry)]))) el22 (H40.wr (i := 2) rfl) rfl (Ob.rd1 (H40.ob (i := 0) rfl) rfl) rfl (by simp only [bcs_length, ics_length, rows_length, blks_length, robjs_length, ents_length, List.length_append, List.length_cons, List.length_nil, List.length_take, List.length_drop, List.length_map, enc4, enc8, encN_len, encW_len, recsE_length]; try omega) (ents_one _) (by omega) (by omega) (by omega) rfl rfl ?_
  intro w42 A43 c44 g45 ow46 nx47
  have H48 : Sp [BlkA b35 31 [(.int .i64 3), (.int .i64 0), (.int .i64 0), (.int .i64 0), (.int .i64 0), (.int .i64 0), (.int .i64 0), (.int .i64 0), (.int .i64 0), (.int .i64 0), (.int .i64 0)], BlkA b19 31 [(.int .i64 2), (.int .i64 0), (.int .i64 0), (.int .i64 0), (.int .i64 0), (.int .i64 0), (.int .i64 0), (.int .i64 0), (.int .i64 0), (.int .i64 0), (.int .i64 0)], RowA 31 11 A43 (((0 + 1) + 1) + 1) c44 (ents ([(⟨1, 0, 0, 0, ⟨0, 0, 0, 0, 0, 0, 0⟩⟩ : Entry)] ++ [(⟨2, 0, 0, 0, ⟨0, 0, 0, 0, 0, 0, 0⟩⟩ : Entry)] ++ [(⟨3, 0, 0, 0, ⟨0, 0, 0, 0, 0, 0, 0⟩⟩ : Entry)])), BlkA b2 31 [(.int .i64 1), (.int .i64 0), (.int .i64 0), (.int .i64 0), (.int .i64 0), (.int .i64 0), (.int .i64 0), (.int .i64 0), (.int .i64 0), (.int .i64 0), (.int .i64 0)], Fix w NoB] w42 := H40.setR (i := 2) rfl g45 ((ents_app _ _).symm ▸ ow46) nx47 rfl
  have z49 := g45.size
  refine RL.go rfl rfl rfl (Ex.as (v := (.slice A43 (((0 + 1) + 1) + 1) c44)) rfl) ?_
  refine RL.nil (inB.n (thn.n (CW.region ?_)))
  refine RL.go rfl rfl rfl (Ex.mv (v := (.int .i64 3)) rfl) ?_
  refine RL.go rfl rfl rfl (Ex.add (r := 4) rfl rfl rfl) ?_
  refine RL.go rfl rfl rfl (Ex.as (v := (.int .i64 4)) rfl) ?_
  refine RL.nil (thn.n ?_)
  refine CL.step ?_
  refine CW.seq (CW.seq ?_)
  refine CW.region ?_
  refine RL.go rfl rfl rfl (Ex.mv (v := (.int .i64 4)) rfl) ?_
  refine RL.go rfl rfl rfl (Ex.mv (v := (.int .i64 3)) rfl) ?_
  refine RL.go rfl rfl rfl (Ex.le (r := false) rfl rfl (by decide)) ?_
  refine RL.nil (thn.n (CW.condF rfl (CW.exit (thn.x (thn.x (inB.hit (thn.n (CW.seq (CW.region ?_)))))))))
  refine RL.go rfl rfl rfl (Ex.mv (v := (.slice A43 (((0 + 1) + 1) + 1) c44)) rfl) ?_
  refine RL.go rfl rfl rfl (Ex.as (v := (.slice A43 (((0 + 1) + 1) + 1) c44)) rfl) ?_
  refine RL.nil (thn.n (CW.ret ?_))
  refine finQ.r (v := (.slice A43 (((0 + 1) + 1) + 1) c44)) (res1 rfl rfl) ?_
  exact ⟨_, _, rfl, (H48.sel [2, 4] (by decide) rfl)⟩
set_option maxHeartbeats 1000000 in
set_option maxRecDepth 20000 in
theorem three17 (w : World)  : Ret Tryz.prog 92 [] w (fun v w' => ∃ (A' : Option Addr) (c' : Nat), v = .agg [.int .i64 tk3.view, .int .i64 tk3.normal, .int .i64 tk3.base, .string (tx tk3.image), .slice A' 3 c'].toArray ∧ Sp ([RowA 31 11 A' 3 c' (ents tk3.ents)] ++ [Fix w NoB]) w') := by
  have H0 : Sp [Fix w NoB] w := Sp.start w
  refine Ret.body Tryz.func92 rfl rfl rfl ?_
  refine CW.seq (CW.region ?_)
  refine RL.al (cs := [(.int .i64 0), (.int .i64 0), (.int .i64 0), (.string (⟨#[]⟩)), (.slice none 0 0)]) Tryz.zeroValue24 rfl rfl rfl ?_
  intro w1 b2 hb3 hz4 g5 o6
  have H7 := H0.newB g5 o6 (by omega)
  have z8 := g5.size
  refine RL.nil (thn.n (CW.seq (CW.region ?_)))
  refine RL.call Tryz.call55 (oplogNew3) rfl rfl rfl ?_
  rintro _ w9 ⟨rfl, g10⟩
  have H11 := H7.grow g10
  have z12 := g10.size
  refine RL.go rfl rfl rfl (Ex.mv (v := (.tuple #[(.agg ([(.int .i64 fk0.view), (.int .i64 fk0.normal), (.int .i64 fk0.base), (.string (tx fk0.image)), (.slice none 0 0)]).toArray), (.int .i64 0)])) rfl) ?_
  refine RL.go rfl rfl rfl (Ex.ext (vs := [(.agg ([(.int .i64 fk0.view), (.int .i64 fk0.normal), (.int .i64 fk0.base), (.string (tx fk0.image)), (.slice none 0 0)]).toArray), (.int .i64 0)]) (v := (.agg ([(.int .i64 fk0.view), (.int .i64 fk0.normal), (.int .i64 fk0.base), (.string (tx fk0.image)), (.slice none 0 0)]).toArray)) rfl rfl) ?_
  refine RL.go rfl rfl rfl (Ex.ext (vs := [(.agg ([(.int .i64 fk0.view), (.int .i64 fk0.normal), (.int .i64 fk0.base), (.string (tx fk0.image)), (.slice none 0 0)]).toArray), (.int .i64 0)]) (v := (.int .i64 0)) rfl rfl) ?_
  refine RL.al (cs := [(.int .i64 0), (.int .i64 0), (.int .i64 0), (.string (⟨#[]⟩)), (.slice none 0 0)]) Tryz.zeroValue24 rfl rfl rfl ?_
  intro w13 b14 hb15 hz16 g17 o18
  have H19 := H11.newB g17 o18 (by omega)
  have z20 := g17.size
  refine RL.st (vs := [(.int .i64 fk0.view), (.int .i64 fk0.normal), (.int .i64 fk0.base), (.string (tx fk0.image)), (.slice none 0 0)]) (cs' := [(.int .i64 fk0.view), (.int .i64 fk0.normal), (.int .i64 fk0.base), (.string (tx fk0.image)), (.slice none 0 0)]) Tryz.sizeOf24 (H19.ob (i := 0) rfl) rfl rfl rfl rfl rfl rfl ?_
  intro w21 hz22 g23 o24
  have H25 : Sp [BlkA b14 24 [(.int .i64 fk0.view), (.int .i64 fk0.normal), (.int .i64 fk0.base), (.string (tx fk0.image)), (.slice none 0 0)], BlkA b2 24 [(.int .i64 0), (.int .i64 0), (.int .i64 0), (.string (⟨#[]⟩)), (.slice none 0 0)], Fix w NoB] w21 := H19.setB (i := 0) rfl g23 o24 rfl
  have z26 := g23.size
  refine RL.go rfl rfl rfl (Ex.as (v := (.int .i64 0)) rfl) ?_
  refine RL.nil (thn.n (CW.seq (CW.region ?_)))
  refine RL.call Tryz.call93 (row17_3 _) rfl rfl rfl ?_
  rintro _ w29 ⟨A27, c28, rfl, g30⟩
  have g31 := g30.fix (i := 1) rfl
  have H32 : Sp [RowA 31 11 A27 3 c28 (ents tl3), BlkA b14 24 [(.int .i64 fk0.view), (.int .i64 fk0.normal), (.int .i64 fk0.base), (.string (tx fk0.image)), (.slice none 0 0)], BlkA b2 24 [(.int .i64 0), (.int .i64 0), (.int .i64 0), (.string (⟨#[]⟩)), (.slice none 0 0)], Fix w NoB] w29 := H25.join (m := [RowA 31 11 A27 3 c28 (ents tl3)]) g30
  have z33 := g31.size
  refine RL.go rfl rfl rfl (fa24_4 (b := ⟨b14, 4, none⟩) rfl rfl) ?_
  refine RL.st (vs := [(.slice A27 3 c28)]) (cs' := [(.int .i64 fk0.view), (.int .i64 fk0.normal), (.int .i64 fk0.base), (.string (tx fk0.image)), (.slice A27 3 c28)]) Tryz.sizeOf22 (H32.ob (i := 1) rfl) rfl rfl rfl rfl rfl rfl ?_
  intro w34 hz35 g36 o37
  have H38 : Sp [RowA 31 11 A27 3 c28 (ents tl3), BlkA b14 24 [(.int .i64 fk0.view), (.int .i64 fk0.normal), (.int .i64 fk0.base), (.string (tx fk0.image)), (.slice A27 3 c28)], BlkA b2 24 [(.int .i64 0), (.int .i64 0), (.int .i64 0), (.string (⟨#[]⟩)), (.slice none 0 0)], Fix w NoB] w34 := H32.setB (i := 1) rfl g36 o37 rfl
  have z39 := g36.size
  refine RL.nil (thn.n (CW.seq (CW.region ?_)))
  refine RL.go rfl rfl rfl (Ex.ldv rfl (loadCN (cs := [(.int .i64 fk0.view), (.int .i64 fk0.normal), (.int .i64 fk0.base), (.string (tx fk0.image)), (.slice A27 3 c28)]) wh24 (H38.ob (i := 1) rfl).cl)) ?_
  refine RL.st (vs := [(.int .i64 fk0.view), (.int .i64 fk0.normal), (.int .i64 fk0.base), (.string (tx fk0.image)), (.slice A27 3 c28)]) (cs' := [(.int .i64 fk0.view), (.int .i64 fk0.normal), (.int .i64 fk0.base), (.string (tx fk0.image)), (.slice A27 3 c28)]) Tryz.sizeOf24 (H38.ob (i := 2) rfl) rfl rfl rfl rfl rfl rfl ?_
  intro w40 hz41 g42 o43
  have H44 : Sp [RowA 31 11 A27 3 c28 (ents tl3), BlkA b14 24 [(.int .i64 fk0.view), (.int .i64 fk0.normal), (.int .i64 fk0.base), (.string (tx fk0.image)), (.slice A27 3 c28)], BlkA b2 24 [(.int .i64 fk0.view), (.int .i64 fk0.normal), (.int .i64 fk0.base), (.string (tx fk0.image)), (.slice A27 3 c28)], Fix w NoB] w40 := H38.setB (i := 2) rfl g42 o43 rfl
  have z45 := g42.size
  refine RL.nil (thn.n (CW.ret ?_))
  refine finQ.r (v := (.agg ([(.int .i64 fk0.view), (.int .i64 fk0.normal), (.int .i64 fk0.base), (.string (tx fk0.image)), (.slice A27 3 c28)]).toArray)) (resv1 rfl (Rv.cell rfl (loadCN (cs := [(.int .i64 fk0.view), (.int .i64 fk0.normal), (.int .i64 fk0.base), (.string (tx fk0.image)), (.slice A27 3 c28)]) wh24 (H44.ob (i := 2) rfl).cl))) ?_
  exact ⟨_, _, rfl, (H44.sel [0, 3] (by decide) rfl)⟩
end Go.Proofs.YtfokljnhllflbaaGreat
namespace Go.Proofs.YtfokljnhllflbaaGreat
open Go Go.Eng Go.RowKit
set_option maxHeartbeats 1000000 in
set_option maxRecDepth 20000 in
theorem own_ (w : World) (B : Nat) (v : Vote) (A : Option Addr) (n c : Nat) (hr : Rd w B 11 A (ents v.ents)) (hB : B ≤ w.heap.size) (hn : n = v.ents.length) (hm : n ≤ 1099511627776) (hc : n ≤ c) : Ret Tryz.prog 113 [(.agg ([(.int .i64 v.node), (.int .i64 v.normal), (.int .i64 v.base), (.int .i64 v.number), (.int .i64 v.commit), (.slice A n c)]).toArray)] w (fun v' w' => ∃ (A' : Option Addr) (c' : Nat), v' = .agg #[(.int .i64 v.node), (.int .i64 v.normal), (.int .i64 v.base), (.int .i64 v.number), (.int .i64 v.commit), (.slice A' n c')] ∧ Sp ([RowA 31 11 A' n c' (ents v.ents)] ++ [Fix w NoB]) w') := by
  have H0 : Sp [Fix w NoB] w := Sp.start w
  refine Ret.body Tryz.func113 rfl rfl rfl ?_
  refine CW.seq (CW.region ?_)
  refine RL.bx (cs := [(.int .i64 v.node), (.int .i64 v.normal), (.int .i64 v.base), (.int .i64 v.number), (.int .i64 v.commit), (.slice A n c)]) rfl rfl rfl ?_
  intro w1 b2 hb3 hz4 g5 o6
  have H7 := H0.newB g5 o6 (by omega)
  have z8 := g5.size
  refine RL.al (cs := [(.int .i64 0), (.int .i64 0), (.int .i64 0), (.int .i64 0), (.int .i64 0), (.slice none 0 0)]) Tryz.zeroValue67 rfl rfl rfl ?_
  intro w9 b10 hb11 hz12 g13 o14
  have H15 := H7.newB g13 o14 (by omega)
  have z16 := g13.size
  refine RL.nil (thn.n (CW.seq (CW.region ?_)))
  refine RL.go rfl rfl rfl (fa67_5 (b := ⟨b2, 5, none⟩) rfl rfl) ?_
  refine RL.go rfl rfl rfl (Ex.ldv rfl (loadC1 lo22 (Ob.cell (v := (.slice A n c)) (H15.ob (i := 1) rfl) rfl))) ?_
  refine RL.call Tryz.call89 (cloneEnt _ v.ents _ _ _ _ (hr.st0 (H15.fix (i := 2) rfl)) (by (try simp only [List.length_append, List.length_cons, List.length_nil, List.length_take, List.length_drop]); all_goals omega) (by omega)) rfl rfl rfl ?_
  rintro _ w20 ⟨A17, c18, rfl, g21, ow19⟩
  have H22 : Sp [RowA 31 11 A17 n c18 (ents v.ents), BlkA b10 67 [(.int .i64 0), (.int .i64 0), (.int .i64 0), (.int .i64 0), (.int .i64 0), (.slice none 0 0)], BlkA b2 67 [(.int .i64 v.node), (.int .i64 v.normal), (.int .i64 v.base), (.int .i64 v.number), (.int .i64 v.commit), (.slice A n c)], Fix w NoB] w20 := H15.newO g21 ow19 (by simp only [bcs_length, ics_length, rows_length, blks_length, robjs_length, ents_length, List.length_append, List.length_cons, List.length_nil, List.length_take, List.length_drop, List.length_map, enc4, enc8, encN_len, encW_len, recsE_length, rvotes_length]; omega) (Nat.le_refl _)
  have z23 := g21.size
  refine RL.go rfl rfl rfl (fa67_5 (b := ⟨b2, 5, none⟩) rfl rfl) ?_
  refine RL.st (vs := [(.slice A17 n c18)]) (cs' := [(.int .i64 v.node), (.int .i64 v.normal), (.int .i64 v.base), (.int .i64 v.number), (.int .i64 v.commit), (.slice A17 n c18)]) Tryz.sizeOf22 (H22.ob (i := 2) rfl) rfl rfl rfl rfl rfl rfl ?_
  intro w24 hz25 g26 o27
  have H28 : Sp [RowA 31 11 A17 n c18 (ents v.ents), BlkA b10 67 [(.int .i64 0), (.int .i64 0), (.int .i64 0), (.int .i64 0), (.int .i64 0), (.slice none 0 0)], BlkA b2 67 [(.int .i64 v.node), (.int .i64 v.normal), (.int .i64 v.base), (.int .i64 v.number), (.int .i64 v.commit), (.slice A17 n c18)], Fix w NoB] w24 := H22.setB (i := 2) rfl g26 o27 rfl
  have z29 := g26.size
  refine RL.nil (thn.n (CW.seq (CW.region ?_)))
  refine RL.go rfl rfl rfl (Ex.ldv rfl (loadCN (cs := [(.int .i64 v.node), (.int .i64 v.normal), (.int .i64 v.base), (.int .i64 v.number), (.int .i64 v.commit), (.slice A17 n c18)]) wh67 (H28.ob (i := 2) rfl).cl)) ?_
  refine RL.st (vs := [(.int .i64 v.node), (.int .i64 v.normal), (.int .i64 v.base), (.int .i64 v.number), (.int .i64 v.commit), (.slice A17 n c18)]) (cs' := [(.int .i64 v.node), (.int .i64 v.normal), (.int .i64 v.base), (.int .i64 v.number), (.int .i64 v.commit), (.slice A17 n c18)]) Tryz.sizeOf67 (H28.ob (i := 1) rfl) rfl rfl rfl rfl rfl rfl ?_
  intro w30 hz31 g32 o33
  have H34 : Sp [RowA 31 11 A17 n c18 (ents v.ents), BlkA b10 67 [(.int .i64 v.node), (.int .i64 v.normal), (.int .i64 v.base), (.int .i64 v.number), (.int .i64 v.commit), (.slice A17 n c18)], BlkA b2 67 [(.int .i64 v.node), (.int .i64 v.normal), (.int .i64 v.base), (.int .i64 v.number), (.int .i64 v.commit), (.slice A17 n c18)], Fix w NoB] w30 := H28.setB (i := 1) rfl g32 o33 rfl
  have z35 := g32.size
  refine RL.nil (thn.n (CW.ret ?_))
  refine finQ.r (v := (.agg ([(.int .i64 v.node), (.int .i64 v.normal), (.int .i64 v.base), (.int .i64 v.number), (.int .i64 v.commit), (.slice A17 n c18)]).toArray)) (resv1 rfl (Rv.cell rfl (loadCN (cs := [(.int .i64 v.node), (.int .i64 v.normal), (.int .i64 v.base), (.int .i64 v.number), (.int .i64 v.commit), (.slice A17 n c18)]) wh67 (H34.ob (i := 1) rfl).cl))) ?_
  exact ⟨_, _, rfl, (H34.sel [0, 3] (by decide) rfl)⟩
set_option maxHeartbeats 1000000 in
set_option maxRecDepth 20000 in
theorem eachO_ (w : World) (B : Nat) (l : List RVote) (A : Option Addr) (n c : Nat) (hr : Rd w B 6 A (rvotes l)) (hv : VtR w B l) (hB : B ≤ w.heap.size) (hn : n = l.length) (hm : n ≤ 1000000) (hvb : ∀ r ∈ l, r.v.ents.length ≤ 1000000) : Ret Tryz.prog 115 [(.slice A n c), (.func (.func 113) #[] #[])] w (fun v w' => ∃ (A' : Option Addr) (n' c' : Nat) (rs : List RVote), v = .slice A' n' c' ∧ Sp ([RowA 67 6 A' n' c' (rvotes rs), EnO rs] ++ [Fix w NoB]) w' ∧ rs.map RVote.v = l.map RVote.v) := by
  have H0 : Sp [Fix w NoB] w := Sp.start w
  refine Ret.body Tryz.func115 rfl rfl rfl ?_
  refine CW.seq (CW.region ?_)
  refine RL.go rfl rfl rfl (Ex.as (v := (.slice none 0 0)) rfl) ?_
  refine RL.nil (thn.n (CW.seq (CW.region ?_)))
  refine RL.go rfl rfl rfl (Ex.as (v := (.slice none 0 0)) rfl) ?_
  refine RL.nil (thn.n (CW.seq (CW.seq (CW.region ?_))))
  refine RL.go rfl rfl rfl (Ex.mv (v := (.slice A n c)) rfl) ?_
  refine RL.go rfl rfl rfl (Ex.len Tryz.underlying65 rfl) ?_
  refine RL.go rfl rfl rfl (Ex.mv (v := (.int .i64 0)) rfl) ?_
  refine RL.nil (thn.n (CW.block ?_))
  have H1 := H0.nil_ 67 6
  have H2 : Sp [EnO ([]), RowA 67 6 none 0 0 (rvotes ([])), Fix w NoB] w := H1.enNil
  refine CW.loop (fun t => Nat.beq t 5 || Nat.beq t 7 || (Nat.ble 10 t && Nat.ble t 20)) (fun nL ρ wl => ∃ (k1 n1 c1 : Nat) (A1 : Option Addr) (rs1 : List RVote), ρ 10 = (.int .i64 (k1 : Int)) ∧ ρ 5 = (.slice A1 n1 c1) ∧ nL = n - k1 ∧ Sp [EnO rs1, RowA 67 6 A1 n1 c1 (rvotes rs1), Fix w NoB] wl ∧ k1 ≤ n ∧ n1 = k1 ∧ rs1.map RVote.v = (l.take k1).map RVote.v) (n) ?aa0 ?bb0
  case aa0 =>
   exact ⟨0, 0, 0, none, [], rfl, rfl, rfl, H2, Nat.zero_le _, rfl, rfl⟩
  case bb0 =>
   rintro n4 ρ0 w3 ho5 ⟨k1, n1, c1, A1, rs1, hs0_10, hs0_5, hn0, H6, hk1, hn1, hmap⟩
   obtain ⟨j0, rfl⟩ := ho5.shape2 hs0_10 hs0_5
   clear ho5 hs0_10 hs0_5
   subst hn0
   have z7 := (H6.fix (i := 2) rfl).size
   refine CW.seq (CW.region ?_)
   refine RL.br (p := ((k1 : Int) : Int) < ((n : Nat) : Int)) rfl rfl rfl (fun r hr => Ex.lt rfl rfl hr) (fun h8 => ?_) (fun h8 => ?_)
   ·skip
    refine RL.nil (thn.n (CW.seq (CW.condT rfl (CW.skip (thn.n (CW.seq (CW.block (CW.seq (CW.region ?_)))))))))
    obtain ⟨e9, he10⟩ : ∃ e, (l)[k1]? = some e := ⟨_, List.getElem?_eq_getElem (by omega)⟩
    obtain ⟨hre11, hne12, hce13⟩ := (hv).get he10
    have hvb14 := hvb e9 (List.mem_of_getElem? he10)
    obtain ⟨ad15, hA16⟩ := Rd.sm (hr.st0 (H6.fix (i := 2) rfl)) (rvotes_get he10)
    have hl17 := Eng.lt_len (rvotes_get he10)
    refine RL.go rfl rfl rfl (Ex.ix (b := (ad15.add (k1 * 6))) (i := k1) Tryz.underlying65 Tryz.sizeOf67 (by rw [← hA16]; rfl) rfl (by omega) (by omega) rfl) ?_
    refine RL.go rfl rfl rfl (Ex.ldv rfl (loadCN (cs := e9.cells) wh67 (Rd.cl (hr.st0 (H6.fix (i := 2) rfl)) hA16 (rvotes_get he10)))) ?_
    refine RL.al (cs := [(.int .i64 0), (.int .i64 0), (.int .i64 0), (.int .i64 0), (.int .i64 0), (.slice none 0 0)]) Tryz.zeroValue67 rfl rfl rfl ?_
    intro w18 b19 hb20 hz21 g22 o23
    have H24 := H6.newB g22 o23 (by omega)
    have z25 := g22.size
    refine RL.st (vs := e9.cells) (cs' := e9.cells) Tryz.sizeOf67 (H24.ob (i := 0) rfl) rfl rfl rfl rfl rfl rfl ?_
    intro w26 hz27 g28 o29
    have H30 : Sp [BlkA b19 67 e9.cells, EnO rs1, RowA 67 6 A1 n1 c1 (rvotes rs1), Fix w NoB] w26 := H24.setB (i := 0) rfl g28 o29 rfl
    have z31 := g28.size
    refine RL.nil (thn.n (CW.region ?_))
    refine RL.go rfl rfl rfl (Ex.mv (v := (.slice A1 n1 c1)) rfl) ?_
    refine RL.go rfl rfl rfl (Ex.mv (v := (.func (.func 113) #[] #[])) rfl) ?_
    refine RL.go rfl rfl rfl (Ex.ldv rfl (loadCN (cs := e9.cells) wh67 (H30.ob (i := 0) rfl).cl)) ?_
    refine RL.callV Tryz.call113 rfl (own_ _ _ e9.v e9.s.a e9.s.n e9.s.c (hre11.st0 (H30.fix (i := 3) rfl)) (by omega) (by first | assumption | rfl | omega) (by first | assumption | rfl | omega) (by first | assumption | rfl | omega)) rfl rfl rfl ?_
    rintro _ w34 ⟨A32, c33, rfl, g35⟩
    have g36 := g35.fix (i := 1) rfl
    have H37 : Sp [RowA 31 11 A32 e9.s.n c33 (ents e9.v.ents), BlkA b19 67 e9.cells, EnO rs1, RowA 67 6 A1 n1 c1 (rvotes rs1), Fix w NoB] w34 := H30.join (m := [RowA 31 11 A32 e9.s.n c33 (ents e9.v.ents)]) g35
    have z38 := g36.size
    refine RL.bs (cs := [(.int .i64 e9.v.node), (.int .i64 e9.v.normal), (.int .i64 e9.v.base), (.int .i64 e9.v.number), (.int .i64 e9.v.commit), (.slice A32 e9.s.n c33)]) Tryz.underlying65 Tryz.sizeOf67 ze65 rfl rfl rfl (by decide) rfl rfl rfl ?_
    intro w39 b40 hb41 hz42 g43 o44
    have H45 := H37.newB g43 o44 (by omega)
    have z46 := g43.size
    refine RL.apW (base := 0) (xss := (rvotes rs1)) (yss := (rvotes ([(⟨e9.v, ⟨A32, e9.s.n, c33⟩⟩ : RVote)]))) el65 (H45.wr (i := 4) rfl) rfl (Ob.rd1 (H45.ob (i := 0) rfl) rfl) rfl (by simp only [bcs_length, ics_length, rows_length, blks_length, robjs_length, ents_length, List.length_append, List.length_cons, List.length_nil, List.length_take, List.length_drop, List.length_map, enc4, enc8, encN_len, encW_len, recsE_length, rvotes_length]; try omega) (rvotes_one _) (by omega) (by omega) (by omega) rfl rfl ?_
    intro w47 A48 c49 g50 ow51 nx52
    have H53 : Sp [BlkA b40 67 [(.int .i64 e9.v.node), (.int .i64 e9.v.normal), (.int .i64 e9.v.base), (.int .i64 e9.v.number), (.int .i64 e9.v.commit), (.slice A32 e9.s.n c33)], RowA 31 11 A32 e9.s.n c33 (ents e9.v.ents), BlkA b19 67 e9.cells, EnO rs1, RowA 67 6 A48 (n1 + 1) c49 (rvotes (rs1 ++ [(⟨e9.v, ⟨A32, e9.s.n, c33⟩⟩ : RVote)])), Fix w NoB] w47 := H45.setR (i := 4) rfl g50 ((rvotes_app _ _).symm ▸ ow51) nx52 rfl
    have z54 := g50.size
    refine RL.go rfl rfl rfl (Ex.as (v := (.slice A48 (n1 + 1) c49)) rfl) ?_
    refine RL.nil (inB.n (thn.n (CW.region ?_)))
    refine RL.go rfl rfl rfl (Ex.add (r := (k1 : Int) + 1) rfl rfl (w64 (by omega) (by omega))) ?_
    refine RL.go rfl rfl rfl (Ex.mv (v := (.int .i64 ((k1 : Int) + 1))) rfl) ?_
    refine RL.nil (thn.n ?_)
    have H55 : Sp [EnO (rs1 ++ [(⟨e9.v, ⟨A32, e9.s.n, c33⟩⟩ : RVote)]), BlkA b40 67 [(.int .i64 e9.v.node), (.int .i64 e9.v.normal), (.int .i64 e9.v.base), (.int .i64 e9.v.number), (.int .i64 e9.v.commit), (.slice A32 e9.s.n c33)], BlkA b19 67 e9.cells, RowA 67 6 A48 (n1 + 1) c49 (rvotes (rs1 ++ [(⟨e9.v, ⟨A32, e9.s.n, c33⟩⟩ : RVote)])), Fix w NoB] w47 := (Sp.enSnoc (rs := rs1) (v := e9.v) (H53.sel [3, 1, 0, 2, 4, 5] (by decide) rfl))
    refine ⟨(by repeat (first | exact Out.mix _ _ | exact Out.refl _ _ | refine Out.up ?_ rfl _)), _, ?_, k1 + 1, n1 + 1, c49, A48, rs1 ++ [(⟨e9.v, ⟨A32, e9.s.n, c33⟩⟩ : RVote)], rfl, rfl, rfl, (H55.sel [0, 3, 4] (by decide) rfl), by omega, by omega, by rw [List.map_append, hmap, List.take_add_one, he10, List.map_append]; rfl⟩
    omega
   ·skip
    refine RL.nil (thn.n (CW.seq (CW.condF rfl (CW.exit (thn.x (thn.x (inB.hit (thn.n (CW.seq (CW.region ?_))))))))))
    refine RL.go rfl rfl rfl (Ex.mv (v := (.slice A1 n1 c1)) rfl) ?_
    refine RL.go rfl rfl rfl (Ex.as (v := (.slice A1 n1 c1)) rfl) ?_
    refine RL.nil (thn.n (CW.ret ?_))
    refine finQ.r (v := (.slice A1 n1 c1)) (res1 rfl rfl) ?_
    exact ⟨_, _, _, _, rfl, (H6.sel [1, 0, 2] (by decide) rfl), by rw [hmap, List.take_of_length_le (by omega)]⟩
end Go.Proofs.YtfokljnhllflbaaGreat
namespace Go.Proofs.YtfokljnhllflbaaGreat
open Go Go.Eng Go.RowKit
set_option maxHeartbeats 400000 in
set_option maxRecDepth 20000 in
theorem add1_ (w : World) (b : Nat) (x : Vote) (Ax : Option Addr) (nx cx : Nat) (hb : Ob w b 67 [(.int .i64 x.node), (.int .i64 x.normal), (.int .i64 x.base), (.int .i64 x.number), (.int .i64 x.commit), (.slice Ax nx cx)]) (r : RVote) : Ret Tryz.prog 116 [(.agg (r.cells).toArray), (.pointer (some ⟨b, 0, none⟩))] w (fun v w' => v = .bool (decide (r.v.node = x.node)) ∧ w.grownBy w' none) := by
  have H0 : Sp [Fix w NoB] w := Sp.start w
  refine Ret.body Tryz.func116 rfl rfl rfl ?_
  refine CW.seq (CW.region ?_)
  refine RL.bx (cs := r.cells) rfl rfl rfl ?_
  intro w1 b2 hb3 hz4 g5 o6
  have H7 := H0.newB g5 o6 (by omega)
  have z8 := g5.size
  refine RL.go rfl rfl rfl (Ex.as (v := (.bool false)) rfl) ?_
  refine RL.nil (thn.n (CW.seq (CW.region ?_)))
  refine RL.go rfl rfl rfl (fa67_0 (b := ⟨b2, 0, none⟩) rfl rfl) ?_
  refine RL.go rfl rfl rfl (Ex.ldv rfl (loadC1 lo3 (Ob.cell (v := (.int .i64 r.v.node)) (H7.ob (i := 0) rfl) rfl))) ?_
  refine RL.go rfl rfl rfl (fa67_0 (b := ⟨b, 0, none⟩) rfl rfl) ?_
  refine RL.go rfl rfl rfl (Ex.ldv rfl (loadC1 lo3 (Ob.cell (v := (.int .i64 x.node)) (hb.st0 (H7.fix (i := 1) rfl)) rfl))) ?_
  refine RL.br (p := (r.v.node : Int) = (x.node : Int)) rfl rfl rfl (fun r hr => Ex.eqD rfl rfl hr) (fun h9 => ?_) (fun h9 => ?_)
  ·skip
   refine RL.go rfl rfl rfl (Ex.as (v := (.bool true)) rfl) ?_
   refine RL.nil (thn.n (CW.ret ?_))
   refine finQ.r (v := (.bool true)) (res1 rfl rfl) ?_
   exact ⟨ret_bool (by first | rfl | (symm; simpa using h9)), (H7.fix (i := 1) rfl)⟩
  ·skip
   refine RL.go rfl rfl rfl (Ex.as (v := (.bool false)) rfl) ?_
   refine RL.nil (thn.n (CW.ret ?_))
   refine finQ.r (v := (.bool false)) (res1 rfl rfl) ?_
   exact ⟨ret_bool (by first | rfl | (symm; simpa using h9)), (H7.fix (i := 1) rfl)⟩
set_option maxHeartbeats 400000 in
set_option maxRecDepth 20000 in
theorem add2_ (w : World) (b : Nat) (x : Vote) (Ax : Option Addr) (nx cx : Nat) (hb : Ob w b 67 [(.int .i64 x.node), (.int .i64 x.normal), (.int .i64 x.base), (.int .i64 x.number), (.int .i64 x.commit), (.slice Ax nx cx)]) (r : RVote) : Ret Tryz.prog 118 [(.agg (r.cells).toArray), (.pointer (some ⟨b, 0, none⟩))] w (fun v w' => v = .bool (decide (x.node < r.v.node)) ∧ w.grownBy w' none) := by
  have H0 : Sp [Fix w NoB] w := Sp.start w
  refine Ret.body Tryz.func118 rfl rfl rfl ?_
  refine CW.seq (CW.region ?_)
  refine RL.bx (cs := r.cells) rfl rfl rfl ?_
  intro w1 b2 hb3 hz4 g5 o6
  have H7 := H0.newB g5 o6 (by omega)
  have z8 := g5.size
  refine RL.go rfl rfl rfl (Ex.as (v := (.bool false)) rfl) ?_
  refine RL.nil (thn.n (CW.seq (CW.region ?_)))
  refine RL.go rfl rfl rfl (fa67_0 (b := ⟨b2, 0, none⟩) rfl rfl) ?_
  refine RL.go rfl rfl rfl (Ex.ldv rfl (loadC1 lo3 (Ob.cell (v := (.int .i64 r.v.node)) (H7.ob (i := 0) rfl) rfl))) ?_
  refine RL.go rfl rfl rfl (fa67_0 (b := ⟨b, 0, none⟩) rfl rfl) ?_
  refine RL.go rfl rfl rfl (Ex.ldv rfl (loadC1 lo3 (Ob.cell (v := (.int .i64 x.node)) (hb.st0 (H7.fix (i := 1) rfl)) rfl))) ?_
  refine RL.br (p := (x.node : Int) < (r.v.node : Int)) rfl rfl rfl (fun r hr => Ex.gt rfl rfl hr) (fun h9 => ?_) (fun h9 => ?_)
  ·skip
   refine RL.go rfl rfl rfl (Ex.as (v := (.bool true)) rfl) ?_
   refine RL.nil (thn.n (CW.ret ?_))
   refine finQ.r (v := (.bool true)) (res1 rfl rfl) ?_
   exact ⟨ret_bool (by first | rfl | (symm; simpa using h9)), (H7.fix (i := 1) rfl)⟩
  ·skip
   refine RL.go rfl rfl rfl (Ex.as (v := (.bool false)) rfl) ?_
   refine RL.nil (thn.n (CW.ret ?_))
   refine finQ.r (v := (.bool false)) (res1 rfl rfl) ?_
   exact ⟨ret_bool (by first | rfl | (symm; simpa using h9)), (H7.fix (i := 1) rfl)⟩
end Go.Proofs.YtfokljnhllflbaaGreat
namespace Go.Eng
open Go Go.RowKit
section
variable {P : Program} {N : Nat} {Q Q' : Exit → Env → World → Prop} {ρ : Env} {w : World} {ops rest : List Oper} {o : Oper} {ty : TypeId} {ps : String} {af : Array Edge} {gu : Option (Nat × Bool)}
variable {x : Operand} {t : TypeId}
theorem RL.goN {v : Value} {w' : World} (hd : o.dst = none) (hg : gd ops ρ o = true) (he : Ex P ρ o w v w') (h : RL P N ops Q rest ρ w') :
    RL P N ops Q (o :: rest) ρ w := fun a ha => by
  unfold wpList
  rw [ha.wanted, hg, if_pos rfl]
  refine .inl ?_
  unfold Oper.wp
  rw [ha.eval, he, Oper.upon_value, hd]
  exact h _ (ha.put_none v)
theorem zeroCells_len (z : Array Value) (n : Nat) : (Builtin.zeroCells z n).toList.length = n * z.size := by simp [Builtin.zeroCells]
theorem zeroCells_one {z : Array Value} (hz : ∀ u ∈ z.toList, u.oneCell' = true) (n : Nat) : ∀ u ∈ (Builtin.zeroCells z n).toList, u.oneCell' = true := by
  intro u hu
  simp only [Builtin.zeroCells, Array.toList_map, Array.toList_range, List.mem_map, List.mem_range] at hu
  obtain ⟨i, hi, rfl⟩ := hu
  have hs : 0 < z.size := by
    rcases Nat.eq_zero_or_pos z.size with h | h
    · rw [h] at hi; simp at hi
    · exact h
  rw [getElem!_pos z (i % z.size) (Nat.mod_lt _ hs)]
  exact hz _ (by simp)
theorem pt_head {cs ys : List Value} {off m : Nat} (h : off + m + ys.length ≤ cs.length) : ((pt cs (off + m) ys).drop off).take m = (cs.drop off).take m := by
  apply List.ext_getElem?
  intro i
  by_cases hi : i < m
  · rw [List.getElem?_take_of_lt hi, List.getElem?_take_of_lt hi, List.getElem?_drop, List.getElem?_drop, pt_get h, if_pos (by omega)]
  · rw [List.getElem?_eq_none (by rw [List.length_take]; omega), List.getElem?_eq_none (by rw [List.length_take]; omega)]
theorem Wr.head {w w' : World} {base e k n c i g off : Nat} {xss : List (List Value)} {cs cs' : List Value} (hr : Wr w base e k (some ⟨g, off, none⟩) n c xss) (ho : Ob w g e cs) (hi : i ≤ n) (ho' : Ob w' g e cs') (hl : cs'.length = cs.length) (hc : (cs'.drop off).take (i * k) = (cs.drop off).take (i * k)) : Wr w' base e k (some ⟨g, off, none⟩) i c (xss.take i) := by
  obtain ⟨h1, h2, h3⟩ := hr
  refine ⟨by rw [List.length_take]; omega, fun x hx => h2 x (List.mem_of_mem_take hx), ?_⟩
  rcases h3 with ⟨q, _⟩ | ⟨g1, off1, cs1, q1, q2, q3, q4, q5, q6, q7⟩
  · cases q
  · injection q1 with q1
    injection q1 with q8 q9
    subst q8; subst q9
    have e1 : cs1 = cs := by
      unfold Ob at q3 ho
      rw [q3] at ho
      simp at ho
      exact ho
    subst e1
    refine .inr ⟨g, off, cs', rfl, q2, ho', by omega, by omega, q6, ?_⟩
    rw [hc, flat_take i h2, ← q7, List.take_take, Nat.min_eq_left (Nat.mul_le_mul_right k hi)]
theorem RL.clW {e k n c i base : Nat} {A : Option Addr} {xss : List (List Value)} {z : Value} (ht : P.underlying t = some (.slice e)) (hz : ∀ w : World, (zeroValue e).run P w = .ok z w) (hzk : z.cells.size = k) (hzo : ∀ u ∈ z.cells.toList, u.oneCell' = true)
    (hr : Wr w base e k A n c xss) (hx : ev ρ x = .slice (dropA A c i k) (n - i) (c - i)) (hi : i ≤ n) (hg : gd ops ρ ⟨none, .call ⟨.builtin .clear, #[x], #[t]⟩, ty, ps, af, gu⟩ = true)
    (h : ∀ w', w.grownBy w' (bk A) → Wr w' base e k A i c (xss.take i) → RL P N ops Q rest ρ w') :
    RL P N ops Q (⟨none, .call ⟨.builtin .clear, #[x], #[t]⟩, ty, ps, af, gu⟩ :: rest) ρ w := by
  have hlen := hr.len
  have hrow := hr.row
  rcases hrow with ⟨rfl, rfl, rfl⟩ | ⟨g, off, cs, rfl, hb, ho, hl, hnc, hcm, htk⟩
  · have : i = 0 := by omega
    subst this
    have hxs : xss = [] := List.eq_nil_of_length_eq_zero hlen
    subst hxs
    refine RL.goN (w' := w) (v := .tuple #[]) rfl hg ?_ (h w (grow_self _ _) hr)
    unfold Ex
    simp only [execOp, resolve, invoke, builtin, Sem.run_bind, Sem.run_pure, Result.andThen_ok, List.map_toArray, List.map_cons, List.map_nil, hx]
    simp [Builtin.clear_, run_underlying ht, dropA]
  · by_cases hin : i = n
    · subst hin
      refine RL.goN (w' := w) (v := .tuple #[]) rfl hg ?_ (h w (grow_self _ _) (by rw [List.take_of_length_le (by omega)]; exact hr))
      unfold Ex
      simp only [execOp, resolve, invoke, builtin, Sem.run_bind, Sem.run_pure, Result.andThen_ok, List.map_toArray, List.map_cons, List.map_nil, hx]
      cases hd : dropA (some ⟨g, off, none⟩) c i k <;> simp [Builtin.clear_, run_underlying ht]
    · have hd : dropA (some ⟨g, off, none⟩) c i k = some ⟨g, off + i * k, none⟩ := by
        unfold dropA
        rw [if_neg (by omega)]
        show some ((⟨g, off, none⟩ : Addr).add (i * k)) = _
        rw [add_lit]
      have hzl := zeroCells_len z.cells (n - i)
      have hmul : i * k + (n - i) * k ≤ c * k := by rw [← Nat.add_mul]; exact Nat.mul_le_mul_right k (by omega)
      obtain ⟨w', h1, h2, h3, h4⟩ := store_ob (P := P) (o := off + i * k) (ys := (Builtin.zeroCells z.cells (n - i)).toList) ho (by rw [hzl, hzk]; omega) (zeroCells_one hzo _)
      have hW := Wr.head (i := i) hr ho hi h4 (pt_length (by rw [hzl, hzk]; omega)) (pt_head (by rw [hzl, hzk]; omega))
      refine RL.goN (w' := w') (v := .tuple #[]) rfl hg ?_ (h w' h3 hW)
      unfold Ex
      simp only [execOp, resolve, invoke, builtin, Sem.run_bind, Sem.run_pure, Result.andThen_ok, List.map_toArray, List.map_cons, List.map_nil, hx, hd]
      obtain ⟨m, hm⟩ : ∃ m, n - i = m + 1 := ⟨n - i - 1, by omega⟩
      rw [hm] at h1 ⊢
      simp [Builtin.clear_, run_underlying ht, hz, h1]
end
end Go.Eng
namespace Go.Eng
open Go Go.RowKit
section
variable {P : Program} {N : Nat} {Q Q' : Exit → Env → World → Prop} {ρ : Env} {w : World} {ops rest : List Oper} {ty : TypeId} {ps : String} {af : Array Edge} {gu : Option (Nat × Bool)}
variable {x y : Operand} {t : TypeId}
theorem flat_set {k : Nat} {vs : List Value} (hv : vs.length = k) : ∀ {xss : List (List Value)} (_ : ∀ x ∈ xss, x.length = k) (i : Nat), i < xss.length → (xss.set i vs).flatten = pt xss.flatten (i * k) vs
  | [], _, i, hi => by simp at hi
  | x :: xss, h, 0, _ => by
    have hx := h x (by simp)
    rw [List.set_cons_zero, List.flatten_cons, List.flatten_cons]
    unfold pt
    rw [Nat.zero_mul, List.take_zero, List.nil_append, Nat.zero_add, List.drop_append_of_le_length (by omega), List.drop_of_length_le (by omega), List.nil_append]
  | x :: xss, h, i + 1, hi => by
    have hx := h x (by simp)
    have ih := flat_set hv (xss := xss) (fun y hy => h y (List.mem_cons_of_mem _ hy)) i (by simpa using hi)
    rw [List.set_cons_succ, List.flatten_cons, List.flatten_cons, ih]
    unfold pt
    have e1 : (i + 1) * k = x.length + i * k := by rw [hx, Nat.add_mul]; omega
    rw [e1, List.take_length_add_append, Nat.add_assoc, List.drop_length_add_append]
    simp only [List.append_assoc]
theorem pt_in {cs vs : List Value} {off m M : Nat} (h1 : off + M ≤ cs.length) (h2 : m + vs.length ≤ M) : ((pt cs (off + m) vs).drop off).take M = pt ((cs.drop off).take M) m vs := by
  have hl : ((cs.drop off).take M).length = M := by rw [List.length_take, List.length_drop]; omega
  apply List.ext_getElem?
  intro j
  rw [pt_get (by omega)]
  by_cases hj : j < M
  · rw [List.getElem?_take_of_lt hj, List.getElem?_drop, pt_get (by omega)]
    by_cases c1 : j < m
    · rw [if_pos (by omega), if_pos c1, List.getElem?_take_of_lt hj, List.getElem?_drop]
    · rw [if_neg (by omega), if_neg c1]
      by_cases c2 : j < m + vs.length
      · rw [if_pos (by omega), if_pos c2]; congr 1; omega
      · rw [if_neg (by omega), if_neg c2, List.getElem?_take_of_lt hj, List.getElem?_drop]
  · rw [List.getElem?_eq_none (by rw [List.length_take]; omega), if_neg (by omega), if_neg (by omega), List.getElem?_eq_none (by omega)]
theorem RL.stW {e k n c i base : Nat} {A : Option Addr} {ad : Addr} {xss : List (List Value)} {x1 vs : List Value} (hs : ∀ w : World, (sizeOf t).run P w = .ok k w) (hr : Wr w base e k A n c xss) (hA : A = some ad) (hx1 : xss[i]? = some x1)
    (hp : ev ρ x = .pointer (some (ad.add (i * k)))) (hy : (ev ρ y).cells = vs.toArray) (hv : vs.length = k) (h1 : vs.all Value.oneCell' = true) (hg : gd ops ρ ⟨none, .store t x y, ty, ps, af, gu⟩ = true)
    (h : ∀ w', w.grownBy w' (bk A) → Wr w' base e k A n c (xss.set i vs) → RL P N ops Q rest ρ w') : RL P N ops Q (⟨none, .store t x y, ty, ps, af, gu⟩ :: rest) ρ w := by
  have hi := lt_len hx1
  obtain ⟨hlen, hall, hrow⟩ := hr
  rcases hrow with ⟨rfl, rfl, rfl⟩ | ⟨g, off, cs, rfl, hb, ho, hl, hnc, hcm, htk⟩
  · cases hA
  · injection hA with hA
    subst hA
    rw [add_lit] at hp
    have m1 : i * k + k ≤ n * k := by have := Nat.mul_le_mul_right k (show i + 1 ≤ n by omega); rw [Nat.add_mul] at this; omega
    have m2 : n * k ≤ c * k := Nat.mul_le_mul_right k hnc
    refine RL.st (b := g) (T := e) (off := off + i * k) (cs := cs) (vs := vs) (cs' := pt cs (off + i * k) vs) (by rw [hv]; exact hs) ho hp hy h1 (by rw [Nat.ble_eq]; omega) rfl hg fun w' hz gr ob => h w' gr ?_
    refine ⟨by rw [List.length_set]; exact hlen, fun z hz => ?_, .inr ⟨g, off, pt cs (off + i * k) vs, rfl, hb, ob, by rw [pt_length (by omega)]; exact hl, hnc, hcm, ?_⟩⟩
    · rcases List.mem_or_eq_of_mem_set hz with hz | hz
      · exact hall z hz
      · rw [hz]; exact hv
    · rw [pt_in (by omega) (by omega), htk, flat_set hv hall i hi]
end
end Go.Eng
namespace Go.Eng
open Go
section
variable {α : Type} {p : α → Bool}
theorem idxFrom_none : ∀ {l : List α} {k : Nat}, idxFrom p k l = -1 → ∀ x ∈ l, p x = false
  | [], _, _, _, hx => by cases hx
  | y :: l, k, h, x, hx => by
    unfold idxFrom at h
    split at h
    · omega
    · rename_i hy
      rcases List.mem_cons.1 hx with rfl | hx
      · simpa using hy
      · exact idxFrom_none h x hx
theorem idxF_none {l : List α} (h : idxF p l = -1) : l.filter (fun x => !p x) = l := List.filter_eq_self.2 fun x hx => by rw [idxFrom_none h x hx]; rfl
theorem idxFrom_some : ∀ {l : List α} {k : Nat}, idxFrom p k l ≠ -1 → ∃ i : Nat, idxFrom p k l = ((k + i : Nat) : Int) ∧ i < l.length ∧ (∀ x ∈ l.take i, p x = false) ∧ ∃ x, l[i]? = some x ∧ p x = true
  | [], _, h => absurd rfl h
  | y :: l, k, h => by
    unfold idxFrom at h ⊢
    by_cases hy : p y = true
    · rw [if_pos hy]
      exact ⟨0, rfl, by simp, by simp, y, rfl, hy⟩
    · rw [if_neg hy] at h ⊢
      obtain ⟨i, h1, h2, h3, x, h4, h5⟩ := idxFrom_some h
      refine ⟨i + 1, by rw [h1]; congr 1; omega, by simpa using h2, fun z hz => ?_, x, by simpa using h4, h5⟩
      rw [List.take_succ_cons] at hz
      rcases List.mem_cons.1 hz with rfl | hz
      · simpa using hy
      · exact h3 z hz
theorem idxF_some {l : List α} (h : idxF p l ≠ -1) : ∃ i : Nat, idxF p l = (i : Int) ∧ i < l.length ∧ (∀ x ∈ l.take i, p x = false) ∧ ∃ x, l[i]? = some x ∧ p x = true := by
  obtain ⟨i, h1, h2⟩ := idxFrom_some h
  rw [Nat.zero_add] at h1
  exact ⟨i, h1, h2⟩
theorem del_start {l : List α} {i : Nat} (h3 : ∀ x ∈ l.take i, p x = false) {x : α} (h4 : l[i]? = some x) (h5 : p x = true) : l.take i = (l.take (i + 1)).filter (fun x => !p x) := by
  rw [List.take_add_one, h4, List.filter_append, List.filter_eq_self.2 fun y hy => by rw [h3 y hy]; rfl]
  simp [h5]
theorem del_skip {l l1 : List α} {i j : Nat} {x : α} (h : l1.take i = (l.take j).filter (fun x => !p x)) (hx : l[j]? = some x) (hp : p x = true) : l1.take i = (l.take (j + 1)).filter (fun x => !p x) := by
  rw [List.take_add_one, hx, List.filter_append, h]
  simp [hp]
theorem del_put {l l1 : List α} {i j : Nat} {x : α} (h : l1.take i = (l.take j).filter (fun x => !p x)) (hi : i < l1.length) (hx : l[j]? = some x) (hp : p x = false) : (l1.set i x).take (i + 1) = (l.take (j + 1)).filter (fun x => !p x) := by
  have e1 : (l1.set i x).take (i + 1) = l1.take i ++ [x] := by rw [List.take_add_one, List.getElem?_set_self hi, List.take_set_of_le (by omega)]; rfl
  have e2 : l.take (j + 1) = l.take j ++ [x] := by rw [List.take_add_one, hx]; rfl
  rw [e1, e2, List.filter_append, ← h]
  simp [hp]
theorem del_rest {l l1 : List α} {i j : Nat} {x : α} (h : l1.drop j = l.drop j) (hij : i ≤ j) : (l1.set i x).drop (j + 1) = l.drop (j + 1) := by
  rw [List.drop_set_of_lt (by omega), ← List.drop_drop, ← List.drop_drop, h]
theorem del_at {l l1 : List α} {j : Nat} (h : l1.drop j = l.drop j) : l1[j]? = l[j]? := by
  have h1 : (l1.drop j)[0]? = (l.drop j)[0]? := by rw [h]
  rwa [List.getElem?_drop, List.getElem?_drop, Nat.add_zero] at h1
theorem idxFrom_map {β : Type} {q : β → Bool} {f : α → β} : ∀ (l : List α) (k : Nat), idxFrom q k (l.map f) = idxFrom (fun x => q (f x)) k l
  | [], _ => rfl
  | x :: l, k => by
    rw [List.map_cons]
    unfold idxFrom
    rw [idxFrom_map l (k + 1)]
def posV (p : α → Bool) (l : List α) : Nat := if idxF p l < 0 then l.length else (idxF p l).toNat
theorem posV_neg {l : List α} (h : idxF p l < 0) : posV p l = l.length := if_pos h
theorem posV_nat {l : List α} {i : Nat} (h : idxF p l = (i : Int)) : posV p l = i := by unfold posV; rw [if_neg (by omega), h]; rfl
theorem posV_map {β : Type} {q : β → Bool} {f : α → β} (l : List α) : posV q (l.map f) = posV (fun x => q (f x)) l := by unfold posV idxF; rw [idxFrom_map, List.length_map]
end
def addV (vs : List Vote) (x : Vote) : List Vote :=
  let o := vs.filter (fun r => !decide (r.node = x.node))
  o.take (posV (fun r => decide (x.node < r.node)) o) ++ [x] ++ o.drop (posV (fun r => decide (x.node < r.node)) o)
theorem addV_map {rs : List RVote} {x : Vote} {s : Sl} {i : Nat} (hi : posV (fun r : RVote => decide (x.node < r.v.node)) (rs.filter (fun r : RVote => !decide (r.v.node = x.node))) = i) :
    List.map RVote.v ((rs.filter (fun r : RVote => !decide (r.v.node = x.node))).take i ++ [(⟨x, s⟩ : RVote)] ++ (rs.filter (fun r : RVote => !decide (r.v.node = x.node))).drop i) = addV (rs.map RVote.v) x := by
  unfold addV
  have e1 : (rs.map RVote.v).filter (fun r => !decide (r.node = x.node)) = (rs.filter (fun r : RVote => !decide (r.v.node = x.node))).map RVote.v := by rw [List.filter_map]; rfl
  simp only [e1, posV_map, hi, List.map_append, List.map_take, List.map_drop, List.map_cons, List.map_nil]
end Go.Eng
namespace Go.Proofs.YtfokljnhllflbaaGreat
open Go Go.Eng Go.RowKit
set_option maxHeartbeats 400000 in
set_option maxRecDepth 20000 in
theorem ixV1 (w : World) (b : Nat) (x : Vote) (Ax : Option Addr) (nx cx : Nat) (hb : Ob w b 67 [(.int .i64 x.node), (.int .i64 x.normal), (.int .i64 x.base), (.int .i64 x.number), (.int .i64 x.commit), (.slice Ax nx cx)]) (B : Nat) (l : List RVote) (A : Option Addr) (n c : Nat) (hr : Rd w B 6 A (rvotes l)) (hn : n = l.length) (hm : n ≤ 1000000) : Ret Tryz.prog 117 [(.slice A n c), (.func (.func 116) #[] #[(.pointer (some ⟨b, 0, none⟩))])] w (fun v w' => v = .int .i64 (idxF (fun r => decide (r.v.node = x.node)) l) ∧ w.grownBy w' none) := by
  have H0 : Sp [Fix w NoB] w := Sp.start w
  refine Ret.body Tryz.func117 rfl rfl rfl ?_
  refine CW.seq (CW.region ?_)
  refine RL.go rfl rfl rfl (Ex.as (v := (.int .i64 0)) rfl) ?_
  refine RL.nil (thn.n (CW.seq (CW.seq (CW.region ?_))))
  refine RL.go rfl rfl rfl (Ex.mv (v := (.slice A n c)) rfl) ?_
  refine RL.go rfl rfl rfl (Ex.len Tryz.underlying65 rfl) ?_
  refine RL.go rfl rfl rfl (Ex.mv (v := (.int .i64 0)) rfl) ?_
  refine RL.nil (thn.n (CW.block ?_))
  refine CW.loop (fun t => (Nat.ble 4 t && Nat.ble t 5) || (Nat.ble 8 t && Nat.ble t 18)) (fun nL ρ wl => ∃ (k : Nat), ρ 8 = (.int .i64 (k : Int)) ∧ nL = n - k ∧ Sp [Fix w NoB] wl ∧ k ≤ n ∧ idxFrom (fun r => decide (r.v.node = x.node)) k (l.drop k) = idxF (fun r => decide (r.v.node = x.node)) l) (n) ?aa0 ?bb0
  case aa0 =>
   exact ⟨0, rfl, rfl, H0, Nat.zero_le _, rfl⟩
  case bb0 =>
   rintro n2 ρ0 w1 ho3 ⟨k, hs0_8, hn0, H4, hk, hix⟩
   obtain ⟨j0, rfl⟩ := ho3.shape1 hs0_8
   clear ho3 hs0_8
   subst hn0
   have z5 := (H4.fix (i := 0) rfl).size
   refine CW.seq (CW.region ?_)
   refine RL.br (p := ((k : Int) : Int) < ((n : Nat) : Int)) rfl rfl rfl (fun r hr => Ex.lt rfl rfl hr) (fun h6 => ?_) (fun h6 => ?_)
   ·skip
    refine RL.nil (thn.n (CW.seq (CW.condT rfl (CW.skip (thn.n (CW.seq (CW.block (CW.seq (CW.region ?_)))))))))
    refine RL.go rfl rfl rfl (Ex.mv (v := (.int .i64 (k : Int))) rfl) ?_
    refine RL.go rfl rfl rfl (Ex.as (v := (.int .i64 (k : Int))) rfl) ?_
    refine RL.nil (thn.n (CW.seq (CW.region ?_)))
    refine RL.go rfl rfl rfl (Ex.mv (v := (.func (.func 116) #[] #[(.pointer (some ⟨b, 0, none⟩))])) rfl) ?_
    refine RL.go rfl rfl rfl (Ex.mv (v := (.slice A n c)) rfl) ?_
    refine RL.go rfl rfl rfl (Ex.mv (v := (.int .i64 (k : Int))) rfl) ?_
    obtain ⟨e7, he8⟩ : ∃ e, (l)[k]? = some e := ⟨_, List.getElem?_eq_getElem (by omega)⟩
    obtain ⟨ad9, hA10⟩ := Rd.sm (hr.st0 (H4.fix (i := 0) rfl)) (rvotes_get he8)
    have hl11 := Eng.lt_len (rvotes_get he8)
    refine RL.go rfl rfl rfl (Ex.ix (b := (ad9.add (k * 6))) (i := k) Tryz.underlying65 Tryz.sizeOf67 (by rw [← hA10]; rfl) rfl (by omega) (by omega) rfl) ?_
    refine RL.go rfl rfl rfl (Ex.ldv rfl (loadCN (cs := e7.cells) wh67 (Rd.cl (hr.st0 (H4.fix (i := 0) rfl)) hA10 (rvotes_get he8)))) ?_
    refine RL.callV Tryz.call116 rfl (add1_ _ b x Ax nx cx (hb.st0 (H4.fix (i := 0) rfl)) e7) rfl rfl rfl ?_
    rintro _ w12 ⟨rfl, g13⟩
    have H14 := H4.grow g13
    have z15 := g13.size
    rcases hb16 : (decide (e7.v.node = x.node)) with _ | _
    ·skip
     refine RL.nil (thn.n (CW.condF rfl (CW.skip (inB.n (thn.n (CW.region ?_))))))
     refine RL.go rfl rfl rfl (Ex.add (r := (k : Int) + 1) rfl rfl (w64 (by omega) (by omega))) ?_
     refine RL.go rfl rfl rfl (Ex.mv (v := (.int .i64 ((k : Int) + 1))) rfl) ?_
     refine RL.nil (thn.n ?_)
     refine ⟨(by repeat (first | exact Out.mix _ _ | exact Out.refl _ _ | refine Out.up ?_ rfl _)), _, ?_, k + 1, rfl, rfl, H14, by omega, idxF_go hix he8 hb16⟩
     omega
    ·skip
     refine RL.nil (thn.n (CW.condT rfl (CW.seq (CW.region ?_))))
     refine RL.go rfl rfl rfl (Ex.mv (v := (.int .i64 (k : Int))) rfl) ?_
     refine RL.go rfl rfl rfl (Ex.as (v := (.int .i64 (k : Int))) rfl) ?_
     refine RL.nil (thn.n (CW.ret (inB.r (thn.r (thn.r (inB.r (thn.r ?_)))))))
     refine finQ.r (v := (.int .i64 (k : Int))) (res1 rfl rfl) ?_
     exact ⟨ret_int (idxF_yes hix he8 hb16), (H14.fix (i := 0) rfl)⟩
   ·skip
    refine RL.nil (thn.n (CW.seq (CW.condF rfl (CW.exit (thn.x (thn.x (inB.hit (thn.n (CW.seq (CW.region ?_))))))))))
    refine RL.go rfl rfl rfl (Ex.as (v := (.int .i64 (-1))) rfl) ?_
    refine RL.nil (thn.n (CW.ret ?_))
    refine finQ.r (v := (.int .i64 (-1))) (res1 rfl rfl) ?_
    exact ⟨ret_int (idxF_end hix (by omega)), (H4.fix (i := 0) rfl)⟩
set_option maxHeartbeats 400000 in
set_option maxRecDepth 20000 in
theorem ixV2 (w : World) (b : Nat) (x : Vote) (Ax : Option Addr) (nx cx : Nat) (hb : Ob w b 67 [(.int .i64 x.node), (.int .i64 x.normal), (.int .i64 x.base), (.int .i64 x.number), (.int .i64 x.commit), (.slice Ax nx cx)]) (B : Nat) (l : List RVote) (A : Option Addr) (n c : Nat) (hr : Rd w B 6 A (rvotes l)) (hn : n = l.length) (hm : n ≤ 1000000) : Ret Tryz.prog 117 [(.slice A n c), (.func (.func 118) #[] #[(.pointer (some ⟨b, 0, none⟩))])] w (fun v w' => v = .int .i64 (idxF (fun r => decide (x.node < r.v.node)) l) ∧ w.grownBy w' none) := by
  have H0 : Sp [Fix w NoB] w := Sp.start w
  refine Ret.body Tryz.func117 rfl rfl rfl ?_
  refine CW.seq (CW.region ?_)
  refine RL.go rfl rfl rfl (Ex.as (v := (.int .i64 0)) rfl) ?_
  refine RL.nil (thn.n (CW.seq (CW.seq (CW.region ?_))))
  refine RL.go rfl rfl rfl (Ex.mv (v := (.slice A n c)) rfl) ?_
  refine RL.go rfl rfl rfl (Ex.len Tryz.underlying65 rfl) ?_
  refine RL.go rfl rfl rfl (Ex.mv (v := (.int .i64 0)) rfl) ?_
  refine RL.nil (thn.n (CW.block ?_))
  refine CW.loop (fun t => (Nat.ble 4 t && Nat.ble t 5) || (Nat.ble 8 t && Nat.ble t 18)) (fun nL ρ wl => ∃ (k : Nat), ρ 8 = (.int .i64 (k : Int)) ∧ nL = n - k ∧ Sp [Fix w NoB] wl ∧ k ≤ n ∧ idxFrom (fun r => decide (x.node < r.v.node)) k (l.drop k) = idxF (fun r => decide (x.node < r.v.node)) l) (n) ?aa0 ?bb0
  case aa0 =>
   exact ⟨0, rfl, rfl, H0, Nat.zero_le _, rfl⟩
  case bb0 =>
   rintro n2 ρ0 w1 ho3 ⟨k, hs0_8, hn0, H4, hk, hix⟩
   obtain ⟨j0, rfl⟩ := ho3.shape1 hs0_8
   clear ho3 hs0_8
   subst hn0
   have z5 := (H4.fix (i := 0) rfl).size
   refine CW.seq (CW.region ?_)
   refine RL.br (p := ((k : Int) : Int) < ((n : Nat) : Int)) rfl rfl rfl (fun r hr => Ex.lt rfl rfl hr) (fun h6 => ?_) (fun h6 => ?_)
   ·skip
    refine RL.nil (thn.n (CW.seq (CW.condT rfl (CW.skip (thn.n (CW.seq (CW.block (CW.seq (CW.region ?_)))))))))
    refine RL.go rfl rfl rfl (Ex.mv (v := (.int .i64 (k : Int))) rfl) ?_
    refine RL.go rfl rfl rfl (Ex.as (v := (.int .i64 (k : Int))) rfl) ?_
    refine RL.nil (thn.n (CW.seq (CW.region ?_)))
    refine RL.go rfl rfl rfl (Ex.mv (v := (.func (.func 118) #[] #[(.pointer (some ⟨b, 0, none⟩))])) rfl) ?_
    refine RL.go rfl rfl rfl (Ex.mv (v := (.slice A n c)) rfl) ?_
    refine RL.go rfl rfl rfl (Ex.mv (v := (.int .i64 (k : Int))) rfl) ?_
    obtain ⟨e7, he8⟩ : ∃ e, (l)[k]? = some e := ⟨_, List.getElem?_eq_getElem (by omega)⟩
    obtain ⟨ad9, hA10⟩ := Rd.sm (hr.st0 (H4.fix (i := 0) rfl)) (rvotes_get he8)
    have hl11 := Eng.lt_len (rvotes_get he8)
    refine RL.go rfl rfl rfl (Ex.ix (b := (ad9.add (k * 6))) (i := k) Tryz.underlying65 Tryz.sizeOf67 (by rw [← hA10]; rfl) rfl (by omega) (by omega) rfl) ?_
    refine RL.go rfl rfl rfl (Ex.ldv rfl (loadCN (cs := e7.cells) wh67 (Rd.cl (hr.st0 (H4.fix (i := 0) rfl)) hA10 (rvotes_get he8)))) ?_
    refine RL.callV Tryz.call118 rfl (add2_ _ b x Ax nx cx (hb.st0 (H4.fix (i := 0) rfl)) e7) rfl rfl rfl ?_
    rintro _ w12 ⟨rfl, g13⟩
    have H14 := H4.grow g13
    have z15 := g13.size
    rcases hb16 : (decide (x.node < e7.v.node)) with _ | _
    ·skip
     refine RL.nil (thn.n (CW.condF rfl (CW.skip (inB.n (thn.n (CW.region ?_))))))
     refine RL.go rfl rfl rfl (Ex.add (r := (k : Int) + 1) rfl rfl (w64 (by omega) (by omega))) ?_
     refine RL.go rfl rfl rfl (Ex.mv (v := (.int .i64 ((k : Int) + 1))) rfl) ?_
     refine RL.nil (thn.n ?_)
     refine ⟨(by repeat (first | exact Out.mix _ _ | exact Out.refl _ _ | refine Out.up ?_ rfl _)), _, ?_, k + 1, rfl, rfl, H14, by omega, idxF_go hix he8 hb16⟩
     omega
    ·skip
     refine RL.nil (thn.n (CW.condT rfl (CW.seq (CW.region ?_))))
     refine RL.go rfl rfl rfl (Ex.mv (v := (.int .i64 (k : Int))) rfl) ?_
     refine RL.go rfl rfl rfl (Ex.as (v := (.int .i64 (k : Int))) rfl) ?_
     refine RL.nil (thn.n (CW.ret (inB.r (thn.r (thn.r (inB.r (thn.r ?_)))))))
     refine finQ.r (v := (.int .i64 (k : Int))) (res1 rfl rfl) ?_
     exact ⟨ret_int (idxF_yes hix he8 hb16), (H14.fix (i := 0) rfl)⟩
   ·skip
    refine RL.nil (thn.n (CW.seq (CW.condF rfl (CW.exit (thn.x (thn.x (inB.hit (thn.n (CW.seq (CW.region ?_))))))))))
    refine RL.go rfl rfl rfl (Ex.as (v := (.int .i64 (-1))) rfl) ?_
    refine RL.nil (thn.n (CW.ret ?_))
    refine finQ.r (v := (.int .i64 (-1))) (res1 rfl rfl) ?_
    exact ⟨ret_int (idxF_end hix (by omega)), (H4.fix (i := 0) rfl)⟩
set_option maxHeartbeats 1000000 in
set_option maxRecDepth 20000 in
theorem delV_ (w : World) (S : Nat → Prop) (b : Nat) (x : Vote) (Ax : Option Addr) (nx cx : Nat) (l : List RVote) (A : Option Addr) (n c : Nat) (hS : (AllA [RowA 67 6 A n c (rvotes l), BlkA b 67 [(.int .i64 x.node), (.int .i64 x.normal), (.int .i64 x.base), (.int .i64 x.number), (.int .i64 x.commit), (.slice Ax nx cx)]]).ok S w) (hm : n ≤ 1000000) : Ret Tryz.prog 114 [(.slice A n c), (.func (.func 116) #[] #[(.pointer (some ⟨b, 0, none⟩))])] w (fun v w' => ∃ n' : Nat, v = .slice A n' c ∧ Sp ([RowA 67 6 A n' c (rvotes (l.filter fun r => !decide (r.v.node = x.node))), BlkA b 67 [(.int .i64 x.node), (.int .i64 x.normal), (.int .i64 x.base), (.int .i64 x.number), (.int .i64 x.commit), (.slice Ax nx cx)]] ++ [Fix w S]) w') := by
  have H0 := Sp.startL hS
  have hnl := H0.len (i := 0) rfl
  have hnc := H0.cap (i := 0) rfl
  rw [rvotes_length] at hnl
  have H0 : Sp [RowA 67 6 A n c (rvotes l), BlkA b 67 [(.int .i64 x.node), (.int .i64 x.normal), (.int .i64 x.base), (.int .i64 x.number), (.int .i64 x.commit), (.slice Ax nx cx)], Fix w S] w := H0
  refine Ret.body Tryz.func114 rfl rfl rfl ?_
  refine CW.seq (CW.region ?_)
  refine RL.go rfl rfl rfl (Ex.as (v := (.slice none 0 0)) rfl) ?_
  refine RL.nil (thn.n (CW.seq (CW.region ?_)))
  refine RL.go rfl rfl rfl (Ex.mv (v := (.slice A n c)) rfl) ?_
  refine RL.go rfl rfl rfl (Ex.mv (v := (.func (.func 116) #[] #[(.pointer (some ⟨b, 0, none⟩))])) rfl) ?_
  have hl1 := H0.len (i := 0) rfl
  rw [rvotes_length] at hl1
  refine RL.call Tryz.call117 (ixV1 _ b x Ax nx cx (H0.ob (i := 1) rfl) _ l A n c (H0.rowrd (i := 0) rfl) (by omega) (by omega)) rfl rfl rfl ?_
  rintro _ w2 ⟨rfl, g3⟩
  have H4 := H0.grow g3
  have z5 := g3.size
  refine RL.go rfl rfl rfl (Ex.as (v := (.int .i64 (idxF (fun r => decide (r.v.node = x.node)) l))) rfl) ?_
  refine RL.nil (thn.n (CW.seq (CW.seq (CW.region ?_))))
  refine RL.go rfl rfl rfl (Ex.mv (v := (.int .i64 (idxF (fun r => decide (r.v.node = x.node)) l))) rfl) ?_
  refine RL.br (p := ((idxF (fun r => decide (r.v.node = x.node)) l) : Int) = (-1 : Int)) rfl rfl rfl (fun r hr => Ex.eqD rfl rfl hr) (fun h6 => ?_) (fun h6 => ?_)
  ·skip
   refine RL.nil (thn.n (CW.condT rfl (CW.seq (CW.region ?_))))
   refine RL.go rfl rfl rfl (Ex.mv (v := (.slice A n c)) rfl) ?_
   refine RL.go rfl rfl rfl (Ex.as (v := (.slice A n c)) rfl) ?_
   refine RL.nil (thn.n (CW.ret (thn.r ?_)))
   refine finQ.r (v := (.slice A n c)) (res1 rfl rfl) ?_
   exact ⟨n, rfl, by rw [idxF_none h6]; exact (H4.sel [0, 1, 2] (by decide) rfl)⟩
  ·skip
   refine RL.nil (thn.n (CW.condF rfl (CW.skip (thn.n (CW.seq (CW.seq (CW.region ?_)))))))
   obtain ⟨i0, hi0, hi1, hi2, x0, hx0, hp0⟩ := idxF_some h6
   rw [hi0]
   refine RL.go rfl rfl rfl (Ex.mv (v := (.int .i64 (i0 : Int))) rfl) ?_
   refine RL.go rfl rfl rfl (Ex.add (r := (i0 : Int) + 1) rfl rfl (w64 (by omega) (by omega))) ?_
   refine RL.go rfl rfl rfl (Ex.as (v := (.int .i64 ((i0 : Int) + 1))) rfl) ?_
   refine RL.nil (thn.n (CW.block ?_))
   refine CW.loop (fun t => (Nat.ble 5 t && Nat.ble t 7) || (Nat.ble 16 t && Nat.ble t 35)) (fun nL ρ wl => ∃ (j i : Nat) (l1 : List RVote), ρ 6 = (.int .i64 (j : Int)) ∧ ρ 5 = (.int .i64 (i : Int)) ∧ nL = n - j ∧ Sp [RowA 67 6 A n c (rvotes l1), BlkA b 67 [(.int .i64 x.node), (.int .i64 x.normal), (.int .i64 x.base), (.int .i64 x.number), (.int .i64 x.commit), (.slice Ax nx cx)], Fix w S] wl ∧ i < j ∧ j ≤ n ∧ l1.length = n ∧ l1.take i = (l.take j).filter (fun r => !decide (r.v.node = x.node)) ∧ l1.drop j = l.drop j) (n - (i0 + 1)) ?aa0 ?bb0
   case aa0 =>
    exact ⟨i0 + 1, i0, l, rfl, rfl, rfl, H4, by omega, by omega, by omega, del_start hi2 hx0 hp0, rfl⟩
   case bb0 =>
    rintro n8 ρ0 w7 ho9 ⟨j, i, l1, hs0_6, hs0_5, hn0, H10, hij, hjn, hl1, htk, hdr⟩
    obtain ⟨j0, rfl⟩ := ho9.shape2 hs0_6 hs0_5
    clear ho9 hs0_6 hs0_5
    subst hn0
    have z11 := (H10.chg (i := 2) rfl).size
    refine CW.seq (CW.seq ?_)
    refine CW.region ?_
    refine RL.go rfl rfl rfl (Ex.mv (v := (.int .i64 (j : Int))) rfl) ?_
    refine RL.go rfl rfl rfl (Ex.mv (v := (.slice A n c)) rfl) ?_
    refine RL.go rfl rfl rfl (Ex.len Tryz.underlying65 rfl) ?_
    refine RL.br (p := ((j : Int) : Int) < ((n : Nat) : Int)) rfl rfl rfl (fun r hr => Ex.lt rfl rfl hr) (fun h12 => ?_) (fun h12 => ?_)
    ·skip
     refine RL.nil (thn.n (CW.condT rfl (CW.skip (thn.n (CW.seq (CW.block (CW.seq (CW.region ?_))))))))
     refine RL.go rfl rfl rfl (Ex.mv (v := (.slice A n c)) rfl) ?_
     refine RL.go rfl rfl rfl (Ex.mv (v := (.int .i64 (j : Int))) rfl) ?_
     obtain ⟨e13, he14⟩ : ∃ e, (l1)[j]? = some e := ⟨_, List.getElem?_eq_getElem (by omega)⟩
     obtain ⟨ad15, hA16⟩ := Rd.sm (H10.rowrd (i := 0) rfl) (rvotes_get he14)
     have hl17 := Eng.lt_len (rvotes_get he14)
     refine RL.go rfl rfl rfl (Ex.ix (b := (ad15.add (j * 6))) (i := j) Tryz.underlying65 Tryz.sizeOf67 (by rw [← hA16]; rfl) rfl (by omega) (by omega) rfl) ?_
     refine RL.go rfl rfl rfl (Ex.ldv rfl (loadCN (cs := e13.cells) wh67 (Rd.cl (H10.rowrd (i := 0) rfl) hA16 (rvotes_get he14)))) ?_
     refine RL.al (cs := [(.int .i64 0), (.int .i64 0), (.int .i64 0), (.int .i64 0), (.int .i64 0), (.slice none 0 0)]) Tryz.zeroValue67 rfl rfl rfl ?_
     intro w18 b19 hb20 hz21 g22 o23
     have H24 := H10.newB g22 o23 (by omega)
     have z25 := g22.size
     refine RL.st (vs := e13.cells) (cs' := e13.cells) Tryz.sizeOf67 (H24.ob (i := 0) rfl) rfl rfl rfl rfl rfl rfl ?_
     intro w26 hz27 g28 o29
     have H30 : Sp [BlkA b19 67 e13.cells, RowA 67 6 A n c (rvotes l1), BlkA b 67 [(.int .i64 x.node), (.int .i64 x.normal), (.int .i64 x.base), (.int .i64 x.number), (.int .i64 x.commit), (.slice Ax nx cx)], Fix w S] w26 := H24.setB (i := 0) rfl g28 o29 rfl
     have z31 := g28.size
     refine RL.nil (thn.n (CW.seq (CW.region ?_)))
     refine RL.go rfl rfl rfl (Ex.mv (v := (.func (.func 116) #[] #[(.pointer (some ⟨b, 0, none⟩))])) rfl) ?_
     refine RL.go rfl rfl rfl (Ex.ldv rfl (loadCN (cs := e13.cells) wh67 (H30.ob (i := 0) rfl).cl)) ?_
     refine RL.callV Tryz.call116 rfl (add1_ _ b x Ax nx cx (H30.ob (i := 2) rfl) e13) rfl rfl rfl ?_
     rintro _ w32 ⟨rfl, g33⟩
     have H34 := H30.grow g33
     have z35 := g33.size
     rcases hb36 : (decide (e13.v.node = x.node)) with _ | _
     ·skip
      refine RL.go rfl rfl rfl (Ex.not (b := false) rfl) ?_
      refine RL.nil (thn.n (CW.condT rfl (CW.seq (CW.region ?_))))
      refine RL.go rfl rfl rfl (Ex.mv (v := (.slice A n c)) rfl) ?_
      refine RL.go rfl rfl rfl (Ex.mv (v := (.int .i64 (i : Int))) rfl) ?_
      refine RL.go rfl rfl rfl (Ex.ldv rfl (loadCN (cs := e13.cells) wh67 (H34.ob (i := 0) rfl).cl)) ?_
      obtain ⟨e37, he38⟩ : ∃ e, (l1)[i]? = some e := ⟨_, List.getElem?_eq_getElem (by omega)⟩
      obtain ⟨ad39, hA40⟩ := Rd.sm (H34.rowrd (i := 1) rfl) (rvotes_get he38)
      have hl41 := Eng.lt_len (rvotes_get he38)
      refine RL.go rfl rfl rfl (Ex.ix (b := (ad39.add (i * 6))) (i := i) Tryz.underlying65 Tryz.sizeOf67 (by rw [← hA40]; rfl) rfl (by omega) (by omega) rfl) ?_
      refine RL.stW (i := i) (vs := e13.cells) Tryz.sizeOf67 (H34.wr (i := 1) rfl) hA40 (rvotes_get he38) rfl rfl rfl rfl rfl ?_
      intro w42 g43 ow44
      have H45 : Sp [BlkA b19 67 e13.cells, RowA 67 6 A n c (rvotes (l1.set i e13)), BlkA b 67 [(.int .i64 x.node), (.int .i64 x.normal), (.int .i64 x.base), (.int .i64 x.number), (.int .i64 x.commit), (.slice Ax nx cx)], Fix w S] w42 := H34.setR (i := 1) rfl (by rw [own_bk]; exact g43) (rvotes_set _ _ _ ▸ ow44) (Nx.refl_ _ _) rfl
      have z46 := g43.size
      refine RL.nil (thn.n (CW.region ?_))
      refine RL.go rfl rfl rfl (Ex.mv (v := (.int .i64 (i : Int))) rfl) ?_
      refine RL.go rfl rfl rfl (Ex.add (r := (i : Int) + 1) rfl rfl (w64 (by omega) (by omega))) ?_
      refine RL.go rfl rfl rfl (Ex.as (v := (.int .i64 ((i : Int) + 1))) rfl) ?_
      refine RL.nil (inB.n (thn.n (CW.region ?_)))
      refine RL.go rfl rfl rfl (Ex.mv (v := (.int .i64 (j : Int))) rfl) ?_
      refine RL.go rfl rfl rfl (Ex.add (r := (j : Int) + 1) rfl rfl (w64 (by omega) (by omega))) ?_
      refine RL.go rfl rfl rfl (Ex.as (v := (.int .i64 ((j : Int) + 1))) rfl) ?_
      refine RL.nil (thn.n ?_)
      refine ⟨(by repeat (first | exact Out.mix _ _ | exact Out.refl _ _ | refine Out.up ?_ rfl _)), _, ?_, j + 1, i + 1, (l1.set i e13), rfl, rfl, rfl, (H45.sel [1, 2, 3] (by decide) rfl), by omega, by omega, by rw [List.length_set]; exact hl1, del_put htk (by omega) (by rw [← del_at hdr]; exact he14) hb36, del_rest hdr (by omega)⟩
      omega
     ·skip
      refine RL.go rfl rfl rfl (Ex.not (b := true) rfl) ?_
      refine RL.nil (thn.n (CW.condF rfl (CW.skip (inB.n (thn.n (CW.region ?_))))))
      refine RL.go rfl rfl rfl (Ex.mv (v := (.int .i64 (j : Int))) rfl) ?_
      refine RL.go rfl rfl rfl (Ex.add (r := (j : Int) + 1) rfl rfl (w64 (by omega) (by omega))) ?_
      refine RL.go rfl rfl rfl (Ex.as (v := (.int .i64 ((j : Int) + 1))) rfl) ?_
      refine RL.nil (thn.n ?_)
      refine ⟨(by repeat (first | exact Out.mix _ _ | exact Out.refl _ _ | refine Out.up ?_ rfl _)), _, ?_, j + 1, i, l1, rfl, rfl, rfl, (H34.sel [1, 2, 3] (by decide) rfl), by omega, by omega, hl1, del_skip htk (by rw [← del_at hdr]; exact he14) hb36, by rw [← List.drop_drop, ← List.drop_drop, hdr]⟩
      omega
    ·skip
     refine RL.nil (thn.n (CW.condF rfl (CW.exit (thn.x (thn.x (inB.hit (thn.n (CW.seq (CW.region ?_)))))))))
     refine RL.go rfl rfl rfl (Ex.mv (v := (.slice A n c)) rfl) ?_
     refine RL.go rfl rfl rfl (Ex.mv (v := (.int .i64 (i : Int))) rfl) ?_
     refine RL.go rfl rfl rfl (Ex.slLo (i := i) Tryz.underlying65 Tryz.sizeOf67 rfl rfl (by omega) (by omega) rfl) ?_
     refine RL.clW (i := i) Tryz.underlying65 Tryz.zeroValue67 rfl (fun u hu => List.all_eq_true.1 (by rfl) u hu) (H10.wr (i := 0) rfl) rfl (by omega) rfl ?_
     intro w47 g48 ow49
     have H50 : Sp [RowA 67 6 A i c (rvotes (l1.take i)), BlkA b 67 [(.int .i64 x.node), (.int .i64 x.normal), (.int .i64 x.base), (.int .i64 x.number), (.int .i64 x.commit), (.slice Ax nx cx)], Fix w S] w47 := H10.setR (i := 0) rfl (by rw [own_bk]; exact g48) (rvotes_take _ _ ▸ ow49) (Nx.refl_ _ _) rfl
     have z51 := g48.size
     refine RL.nil (thn.n (CW.seq (CW.region ?_)))
     refine RL.go rfl rfl rfl (Ex.mv (v := (.slice A n c)) rfl) ?_
     refine RL.go rfl rfl rfl (Ex.mv (v := (.int .i64 (i : Int))) rfl) ?_
     refine RL.go rfl rfl rfl (Ex.slHi (i := i) Tryz.underlying65 Tryz.sizeOf67 rfl rfl rfl (by omega)) ?_
     refine RL.go rfl rfl rfl (Ex.as (v := (.slice A i c)) rfl) ?_
     refine RL.nil (thn.n (CW.ret ?_))
     refine finQ.r (v := (.slice A i c)) (res1 rfl rfl) ?_
     rw [htk, List.take_of_length_le (by omega)] at H50
     exact ⟨i, rfl, (H50.sel [0, 1, 2] (by decide) rfl)⟩
end Go.Proofs.YtfokljnhllflbaaGreat
namespace Go.Proofs.YtfokljnhllflbaaGreat
open Go Go.Eng Go.RowKit
theorem insVoteOv (w : World) (g vb T1 T2 o m mc lb cb : Nat) (cs vcs : List Value) (h1 : Ob w vb T1 vcs) (h2 : Ob w g T2 cs) (hne : vb ≠ g) (hc : cs.length ≠ 0) : (callFunc 173 #[.slice (some ⟨vb, 0, none⟩) m mc, .slice (some ⟨g, o, none⟩) lb cb]).run Tryz.prog w = .ok (.value (.bool false)) w := by
  rw [run_callFunc_extern Tryz.func173 (by kernel_rfl) (by kernel_rfl) (by kernel_rfl) (e := Extern.SlicesOverlaps.overlaps #[65, 65] #[4]) (by kernel_rfl),
    Lib.run_overlaps_apart w 65 4 67 Tryz.underlying65 6 Tryz.sizeOf67 ⟨vb, 0, none⟩ ⟨g, o, none⟩ m mc lb cb hne T1 T2 vcs.length cs.length (by unfold Ob at h1; simp [World.shape?, h1]) (by unfold Ob at h2; simp [World.shape?, h2]) hc
      (by unfold Ob at h1; simp [World.frozen?, h1]) (by unfold Ob at h1; simp [World.frozen?, h1])]
  rfl
set_option maxHeartbeats 1000000 in
set_option maxRecDepth 20000 in
theorem insVoteMR (w : World) (g vb off n c i m : Nat) (cs vcs : List Value) (ho : Ob w g 67 cs) (hv : Ob w vb 67 vcs) (hl : off + c * 6 ≤ cs.length) (hvl : vcs.length = m * 6) (hm : 0 < m) (hnc : n ≤ c) (hcm : c ≤ 9223372036854775807) (hmm : m ≤ 140737488355328) (hne : g ≠ vb) (hi : i < n) (hr : n + m ≤ c) (h1x : ∀ u ∈ (cs.drop off).take (n * 6), u.oneCell' = true) (h1v : ∀ u ∈ vcs, u.oneCell' = true) : Ret Tryz.prog 119 [(.slice (some ⟨g, off, none⟩) n c), (.int .i64 (i : Int)), (.slice (some ⟨vb, 0, none⟩) m m)] w (fun v w' => v = .slice (some ⟨g, off, none⟩) (n + m) c ∧ w.grownBy w' (some g) ∧ Ob w' g 67 (pt (pt cs (off + (i + m) * 6) (((cs.drop off).take (n * 6)).drop (i * 6))) (off + i * 6) vcs)) := by
  have hglt := ho.lt
  have hvlt := hv.lt
  refine Ret.body Tryz.func119 rfl rfl rfl ?_
  refine CW.seq (CW.region ?_)
  refine RL.go rfl rfl rfl (Ex.as (v := (.slice none 0 0)) rfl) ?_
  refine RL.nil (thn.n (CW.seq (CW.region ?_)))
  refine RL.go rfl rfl rfl (Ex.mv (v := (.slice (some ⟨g, off, none⟩) n c)) rfl) ?_
  refine RL.go rfl rfl rfl (Ex.mv (v := (.int .i64 (i : Int))) rfl) ?_
  refine RL.go rfl rfl rfl (Ex.slLo (n := n) (i := i) Tryz.underlying65 Tryz.sizeOf67 rfl rfl rfl (by omega) rfl) ?_
  refine RL.nil (thn.n (CW.seq (CW.region ?_)))
  refine RL.go rfl rfl rfl (Ex.mv (v := (.slice (some ⟨vb, 0, none⟩) m m)) rfl) ?_
  refine RL.go rfl rfl rfl (Ex.len Tryz.underlying65 rfl) ?_
  refine RL.go rfl rfl rfl (Ex.as (v := (.int .i64 (m : Nat))) rfl) ?_
  refine RL.nil (thn.n (CW.seq (CW.seq (CW.region ?_))))
  refine RL.go rfl rfl rfl (Ex.mv (v := (.int .i64 (m : Nat))) rfl) ?_
  refine RL.go rfl rfl rfl (Ex.eqD (r := false) rfl rfl (decide_eq_false (by omega))) ?_
  refine RL.nil (thn.n (CW.condF rfl (CW.skip (thn.n (CW.seq (CW.region ?_))))))
  refine RL.go rfl rfl rfl (Ex.mv (v := (.slice (some ⟨g, off, none⟩) n c)) rfl) ?_
  refine RL.go rfl rfl rfl (Ex.len Tryz.underlying65 rfl) ?_
  refine RL.go rfl rfl rfl (Ex.as (v := (.int .i64 (n : Nat))) rfl) ?_
  refine RL.nil (thn.n (CW.seq (CW.seq (CW.region ?_))))
  refine RL.go rfl rfl rfl (Ex.mv (v := (.int .i64 (i : Int))) rfl) ?_
  refine RL.go rfl rfl rfl (Ex.mv (v := (.int .i64 (n : Nat))) rfl) ?_
  refine RL.go rfl rfl rfl (Ex.eqD (r := false) rfl rfl (decide_eq_false (by omega))) ?_
  refine RL.nil (thn.n (CW.condF rfl (CW.skip (thn.n (CW.seq (CW.seq (CW.region ?_)))))))
  refine RL.go rfl rfl rfl (Ex.mv (v := (.int .i64 (n : Nat))) rfl) ?_
  refine RL.go rfl rfl rfl (Ex.mv (v := (.int .i64 (m : Nat))) rfl) ?_
  refine RL.go rfl rfl rfl (Ex.add (r := (n : Nat) + (m : Nat)) rfl rfl (w64 (by omega) (by omega))) ?_
  refine RL.go rfl rfl rfl (Ex.mv (v := (.slice (some ⟨g, off, none⟩) n c)) rfl) ?_
  refine RL.go rfl rfl rfl (Ex.capS Tryz.underlying65 rfl) ?_
  refine RL.go rfl rfl rfl (Ex.gt (r := false) rfl rfl (decide_eq_false (by omega))) ?_
  refine RL.nil (thn.n (CW.condF rfl (CW.skip (thn.n (CW.seq (CW.region ?_))))))
  refine RL.go rfl rfl rfl (Ex.mv (v := (.slice (some ⟨g, off, none⟩) n c)) rfl) ?_
  refine RL.go rfl rfl rfl (Ex.mv (v := (.int .i64 (n : Nat))) rfl) ?_
  refine RL.go rfl rfl rfl (Ex.mv (v := (.int .i64 (m : Nat))) rfl) ?_
  refine RL.go rfl rfl rfl (Ex.add (r := (n : Nat) + (m : Nat)) rfl rfl (w64 (by omega) (by omega))) ?_
  refine RL.go rfl rfl rfl (Ex.slHi (i := (n + m)) Tryz.underlying65 Tryz.sizeOf67 rfl rfl (by first | rfl | omega | (simp; omega)) (by omega)) ?_
  refine RL.go rfl rfl rfl (Ex.as (v := (.slice (some ⟨g, off, none⟩) (n + m) c)) rfl) ?_
  refine RL.nil (thn.n (CW.seq (CW.seq (CW.region ?_))))
  refine RL.go rfl rfl rfl (Ex.mv (v := (.slice (some ⟨vb, 0, none⟩) m m)) rfl) ?_
  refine RL.go rfl rfl rfl (Ex.mv (v := (.slice (some ⟨g, off, none⟩) (n + m) c)) rfl) ?_
  refine RL.go rfl rfl rfl (Ex.mv (v := (.int .i64 (i : Int))) rfl) ?_
  refine RL.go rfl rfl rfl (Ex.mv (v := (.int .i64 (m : Nat))) rfl) ?_
  refine RL.go rfl rfl rfl (Ex.add (r := (i : Int) + (m : Nat)) rfl rfl (w64 (by omega) (by omega))) ?_
  refine RL.go rfl rfl rfl (Ex.slLoB (i := (i + m)) (o' := off + (i + m) * 6) (n' := (n + m) - (i + m)) (c' := c - (i + m)) Tryz.underlying65 Tryz.sizeOf67 rfl rfl (by first | rfl | omega | (simp; omega)) (by omega) (by omega) rfl rfl rfl) ?_
  refine RL.go rfl rfl rfl (Ex.extn (insVoteOv _ _ _ _ _ _ _ _ _ _ _ _ hv ho (Ne.symm hne) (by omega)) rfl) ?_
  refine RL.go rfl rfl rfl (Ex.not (b := false) rfl) ?_
  refine RL.nil (thn.n (CW.condT rfl (CW.seq ?_)))
  refine CW.quietTail 8 (fun wq => World.grownBy w wq none) Tryz.mixed (by kernel_rfl) ⟨rfl, rfl, rfl, Nat.le_refl _, fun _ _ _ => rfl⟩ ?_
  refine QL.go rfl rfl rfl (fun wq gq => Ex.mv (v := (.slice (some ⟨g, off, none⟩) (n + m) c)) rfl) ?_
  refine QL.go rfl rfl rfl (fun wq gq => Ex.mv (v := (.int .i64 (i : Int))) rfl) ?_
  refine QL.go rfl rfl rfl (fun wq gq => Ex.mv (v := (.int .i64 (m : Nat))) rfl) ?_
  refine QL.go rfl rfl rfl (fun wq gq => Ex.add (r := (i : Int) + (m : Nat)) rfl rfl (w64 (by omega) (by omega))) ?_
  refine QL.go rfl rfl rfl (fun wq gq => Ex.slLoB (i := (i + m)) (o' := off + (i + m) * 6) (n' := (n + m) - (i + m)) (c' := c - (i + m)) Tryz.underlying65 Tryz.sizeOf67 rfl rfl (by first | rfl | omega | (simp; omega)) (by omega) (by omega) rfl rfl rfl) ?_
  refine QL.go rfl rfl rfl (fun wq gq => Ex.mv (v := (.slice (some ⟨g, off, none⟩) (n + m) c)) rfl) ?_
  refine QL.go rfl rfl rfl (fun wq gq => Ex.mv (v := (.int .i64 (i : Int))) rfl) ?_
  refine QL.go rfl rfl rfl (fun wq gq => Ex.slLoB (i := i) (o' := off + i * 6) (n' := (n + m) - i) (c' := c - i) Tryz.underlying65 Tryz.sizeOf67 rfl rfl (by first | rfl | omega | (simp; omega)) (by omega) (by omega) rfl rfl rfl) ?_
  refine QL.nil ?_
  intro w1 g2
  have z3 := g2.size
  have o4 := (ho.st0 g2)
  refine RL.cpy (o := off + (i + m) * 6) (dl := n + m - (i + m)) Tryz.underlying65 Tryz.sizeOf67 o4 rfl (by  omega) (Src.ob (off := off + i * 6) (m := n + m - i) o4 rfl (by omega)) (by rw [seg_eq (off := off) (I := i * 6) (N := n * 6) (by omega) (by omega) (by omega)]; exact fun u hu => h1x u (List.mem_of_mem_drop hu)) rfl rfl ?_
  intro w5 hz6 g7 o8
  rw [show (((cs).drop (off + i * 6)).take ((n + m - i) * 6)).take (min (n + m - i) (n + m - (i + m)) * 6) = ((cs.drop off).take (n * 6)).drop (i * 6) from seg_eq (by omega) (by omega) (by omega)] at o8
  have hlA : (pt (cs) (off + (i + m) * 6) (((cs.drop off).take (n * 6)).drop (i * 6))).length = (cs).length := pt_length (by first | omega | (simp only [List.length_drop, List.length_take]; omega))
  have z9 := g7.size
  refine RL.nil (thn.n (CW.seq (CW.region ?_)))
  refine RL.go rfl rfl rfl (Ex.mv (v := (.slice (some ⟨g, off, none⟩) (n + m) c)) rfl) ?_
  refine RL.go rfl rfl rfl (Ex.mv (v := (.int .i64 (i : Int))) rfl) ?_
  refine RL.go rfl rfl rfl (Ex.slLoB (i := i) (o' := off + i * 6) (n' := (n + m) - i) (c' := c - i) Tryz.underlying65 Tryz.sizeOf67 rfl rfl (by first | rfl | omega | (simp; omega)) (by omega) (by omega) rfl rfl rfl) ?_
  refine RL.go rfl rfl rfl (Ex.mv (v := (.slice (some ⟨vb, 0, none⟩) m m)) rfl) ?_
  have o10 := ((hv.st0 g2).st1 g7 (by omega))
  refine RL.cpy (o := off + i * 6) (dl := n + m - i) Tryz.underlying65 Tryz.sizeOf67 o8 rfl (by  omega) (Src.ob (off := 0) (m := m) o10 rfl (by omega)) (by exact fun u hu => h1v u (List.mem_of_mem_drop (List.mem_of_mem_take (List.mem_of_mem_take hu)))) rfl rfl ?_
  intro w11 hz12 g13 o14
  rw [show (((vcs).drop (0)).take ((m) * 6)).take (min (m) (n + m - i) * 6) = vcs from (by rw [List.drop_zero, List.take_take]; exact List.take_of_length_le (by omega))] at o14
  have z15 := g13.size
  refine RL.nil (thn.n (CW.seq (CW.region ?_)))
  refine RL.go rfl rfl rfl (Ex.mv (v := (.slice (some ⟨g, off, none⟩) (n + m) c)) rfl) ?_
  refine RL.go rfl rfl rfl (Ex.as (v := (.slice (some ⟨g, off, none⟩) (n + m) c)) rfl) ?_
  refine RL.nil (thn.n (CW.ret (thn.r ?_)))
  refine finQ.r (v := (.slice (some ⟨g, off, none⟩) (n + m) c)) (res1 rfl rfl) ?_
  exact ⟨rfl, (grow_row (grow_row (grow_any g2 _) g7) g13), o14⟩
set_option maxHeartbeats 400000 in
set_option maxRecDepth 20000 in
theorem insVoteER (w : World) (g vb off n c i m : Nat) (cs vcs : List Value) (ho : Ob w g 67 cs) (hv : Ob w vb 67 vcs) (hl : off + c * 6 ≤ cs.length) (hvl : vcs.length = m * 6) (hm : 0 < m) (hnc : n ≤ c) (hcm : c ≤ 9223372036854775807) (hmm : m ≤ 140737488355328) (hi : i = n) (hr : n + m ≤ c) (h1v : ∀ u ∈ vcs, u.oneCell' = true) : Ret Tryz.prog 119 [(.slice (some ⟨g, off, none⟩) n c), (.int .i64 (i : Int)), (.slice (some ⟨vb, 0, none⟩) m m)] w (fun v w' => v = .slice (some ⟨g, off, none⟩) (n + m) c ∧ w.grownBy w' (some g) ∧ Ob w' g 67 (pt cs (off + n * 6) vcs)) := by
  refine Ret.body Tryz.func119 rfl rfl rfl ?_
  refine CW.seq (CW.region ?_)
  refine RL.go rfl rfl rfl (Ex.as (v := (.slice none 0 0)) rfl) ?_
  refine RL.nil (thn.n (CW.seq (CW.region ?_)))
  refine RL.go rfl rfl rfl (Ex.mv (v := (.slice (some ⟨g, off, none⟩) n c)) rfl) ?_
  refine RL.go rfl rfl rfl (Ex.mv (v := (.int .i64 (i : Int))) rfl) ?_
  refine RL.go rfl rfl rfl (Ex.slLo (n := n) (i := i) Tryz.underlying65 Tryz.sizeOf67 rfl rfl rfl (by omega) rfl) ?_
  refine RL.nil (thn.n (CW.seq (CW.region ?_)))
  refine RL.go rfl rfl rfl (Ex.mv (v := (.slice (some ⟨vb, 0, none⟩) m m)) rfl) ?_
  refine RL.go rfl rfl rfl (Ex.len Tryz.underlying65 rfl) ?_
  refine RL.go rfl rfl rfl (Ex.as (v := (.int .i64 (m : Nat))) rfl) ?_
  refine RL.nil (thn.n (CW.seq (CW.seq (CW.region ?_))))
  refine RL.go rfl rfl rfl (Ex.mv (v := (.int .i64 (m : Nat))) rfl) ?_
  refine RL.go rfl rfl rfl (Ex.eqD (r := false) rfl rfl (decide_eq_false (by omega))) ?_
  refine RL.nil (thn.n (CW.condF rfl (CW.skip (thn.n (CW.seq (CW.region ?_))))))
  refine RL.go rfl rfl rfl (Ex.mv (v := (.slice (some ⟨g, off, none⟩) n c)) rfl) ?_
  refine RL.go rfl rfl rfl (Ex.len Tryz.underlying65 rfl) ?_
  refine RL.go rfl rfl rfl (Ex.as (v := (.int .i64 (n : Nat))) rfl) ?_
  refine RL.nil (thn.n (CW.seq (CW.seq (CW.region ?_))))
  refine RL.go rfl rfl rfl (Ex.mv (v := (.int .i64 (i : Int))) rfl) ?_
  refine RL.go rfl rfl rfl (Ex.mv (v := (.int .i64 (n : Nat))) rfl) ?_
  refine RL.go rfl rfl rfl (Ex.eqD (r := true) rfl rfl (decide_eq_true (by omega))) ?_
  refine RL.nil (thn.n (CW.condT rfl (CW.seq (CW.region ?_))))
  refine RL.go rfl rfl rfl (Ex.mv (v := (.slice (some ⟨g, off, none⟩) n c)) rfl) ?_
  refine RL.go rfl rfl rfl (Ex.mv (v := (.slice (some ⟨vb, 0, none⟩) m m)) rfl) ?_
  refine RL.apR (m := m) (ys := vcs) el65 ho rfl hl (by omega) (Src.ob (off := 0) hv (by rw [List.drop_zero]; exact List.take_of_length_le (by omega)) (by omega)) h1v rfl rfl ?_
  intro w1 hz2 g3 o4
  refine RL.go rfl rfl rfl (Ex.as (v := (.slice (some ⟨g, off, none⟩) (n + m) c)) rfl) ?_
  refine RL.nil (thn.n (CW.ret (thn.r ?_)))
  refine finQ.r (v := (.slice (some ⟨g, off, none⟩) (n + m) c)) (res1 rfl rfl) ?_
  exact ⟨rfl, (g3), o4⟩
set_option maxHeartbeats 1000000 in
set_option maxRecDepth 20000 in
theorem insVoteMG (w : World) (g vb off n c i m : Nat) (cs vcs : List Value) (ho : Ob w g 67 cs) (hv : Ob w vb 67 vcs) (hl : off + c * 6 ≤ cs.length) (hvl : vcs.length = m * 6) (hm : 0 < m) (hnc : n ≤ c) (hcm : c ≤ 9223372036854775807) (hmm : m ≤ 140737488355328) (hi : i < n) (hr : c < n + m) (hby : (n + m) * 64 ≤ 140737488355328) (h1x : ∀ u ∈ (cs.drop off).take (n * 6), u.oneCell' = true) (h1v : ∀ u ∈ vcs, u.oneCell' = true) : Ret Tryz.prog 119 [(.slice (some ⟨g, off, none⟩) n c), (.int .i64 (i : Int)), (.slice (some ⟨vb, 0, none⟩) m m)] w (fun v w' => ∃ (b c' : Nat) (zs : List Value), v = .slice (some ⟨b, 0, none⟩) (n + m) c' ∧ w.grownBy w' none ∧ w.heap.size ≤ b ∧ n + m ≤ c' ∧ c' ≤ maxLen ∧ i * 6 + zs.length = c' * 6 ∧ Ob w' b 67 (pt (pt (((cs.drop off).take (n * 6)).take (i * 6) ++ zs) (0 + i * 6) vcs) (0 + (i + m) * 6) (((cs.drop off).take (n * 6)).drop (i * 6)))) := by
  have hglt := ho.lt
  have hvlt := hv.lt
  refine Ret.body Tryz.func119 rfl rfl rfl ?_
  refine CW.seq (CW.region ?_)
  refine RL.go rfl rfl rfl (Ex.as (v := (.slice none 0 0)) rfl) ?_
  refine RL.nil (thn.n (CW.seq (CW.region ?_)))
  refine RL.go rfl rfl rfl (Ex.mv (v := (.slice (some ⟨g, off, none⟩) n c)) rfl) ?_
  refine RL.go rfl rfl rfl (Ex.mv (v := (.int .i64 (i : Int))) rfl) ?_
  refine RL.go rfl rfl rfl (Ex.slLo (n := n) (i := i) Tryz.underlying65 Tryz.sizeOf67 rfl rfl rfl (by omega) rfl) ?_
  refine RL.nil (thn.n (CW.seq (CW.region ?_)))
  refine RL.go rfl rfl rfl (Ex.mv (v := (.slice (some ⟨vb, 0, none⟩) m m)) rfl) ?_
  refine RL.go rfl rfl rfl (Ex.len Tryz.underlying65 rfl) ?_
  refine RL.go rfl rfl rfl (Ex.as (v := (.int .i64 (m : Nat))) rfl) ?_
  refine RL.nil (thn.n (CW.seq (CW.seq (CW.region ?_))))
  refine RL.go rfl rfl rfl (Ex.mv (v := (.int .i64 (m : Nat))) rfl) ?_
  refine RL.go rfl rfl rfl (Ex.eqD (r := false) rfl rfl (decide_eq_false (by omega))) ?_
  refine RL.nil (thn.n (CW.condF rfl (CW.skip (thn.n (CW.seq (CW.region ?_))))))
  refine RL.go rfl rfl rfl (Ex.mv (v := (.slice (some ⟨g, off, none⟩) n c)) rfl) ?_
  refine RL.go rfl rfl rfl (Ex.len Tryz.underlying65 rfl) ?_
  refine RL.go rfl rfl rfl (Ex.as (v := (.int .i64 (n : Nat))) rfl) ?_
  refine RL.nil (thn.n (CW.seq (CW.seq (CW.region ?_))))
  refine RL.go rfl rfl rfl (Ex.mv (v := (.int .i64 (i : Int))) rfl) ?_
  refine RL.go rfl rfl rfl (Ex.mv (v := (.int .i64 (n : Nat))) rfl) ?_
  refine RL.go rfl rfl rfl (Ex.eqD (r := false) rfl rfl (decide_eq_false (by omega))) ?_
  refine RL.nil (thn.n (CW.condF rfl (CW.skip (thn.n (CW.seq (CW.seq (CW.region ?_)))))))
  refine RL.go rfl rfl rfl (Ex.mv (v := (.int .i64 (n : Nat))) rfl) ?_
  refine RL.go rfl rfl rfl (Ex.mv (v := (.int .i64 (m : Nat))) rfl) ?_
  refine RL.go rfl rfl rfl (Ex.add (r := (n : Nat) + (m : Nat)) rfl rfl (w64 (by omega) (by omega))) ?_
  refine RL.go rfl rfl rfl (Ex.mv (v := (.slice (some ⟨g, off, none⟩) n c)) rfl) ?_
  refine RL.go rfl rfl rfl (Ex.capS Tryz.underlying65 rfl) ?_
  refine RL.go rfl rfl rfl (Ex.gt (r := true) rfl rfl (decide_eq_true (by omega))) ?_
  refine RL.nil (thn.n (CW.condT rfl (CW.seq (CW.region ?_))))
  refine RL.go rfl rfl rfl (Ex.mv (v := (.slice (some ⟨g, off, none⟩) n c)) rfl) ?_
  refine RL.go rfl rfl rfl (Ex.mv (v := (.int .i64 (i : Int))) rfl) ?_
  refine RL.go rfl rfl rfl (Ex.slHi (i := i) Tryz.underlying65 Tryz.sizeOf67 rfl rfl (by first | rfl | omega | (simp; omega)) (by omega)) ?_
  refine RL.go rfl rfl rfl (Ex.mv (v := (.int .i64 (n : Nat))) rfl) ?_
  refine RL.go rfl rfl rfl (Ex.mv (v := (.int .i64 (m : Nat))) rfl) ?_
  refine RL.go rfl rfl rfl (Ex.add (r := (n : Nat) + (m : Nat)) rfl rfl (w64 (by omega) (by omega))) ?_
  refine RL.go rfl rfl rfl (Ex.mv (v := (.int .i64 (i : Int))) rfl) ?_
  refine RL.go rfl rfl rfl (Ex.sub_ (r := ((n : Nat) + (m : Nat)) - (i : Int)) rfl rfl (w64 (by omega) (by omega))) ?_
  refine RL.apZ (n := i) (m := n + m - i) (xs := ((cs.drop off).take (n * 6)).take (i * 6)) el65 rfl Tryz.underlying3 rfl (Src.ob (off := off) ho (by rw [List.take_take]; congr 1; omega) (by omega)) (by omega) rfl (by omega) (by omega) (by omega) (by omega) rfl rfl ?_
  intro w1 b2 c3 zs4 hb5 hz6 g7 hc8 hc9 hzs10 o11
  have hxl : (((cs.drop off).take (n * 6)).take (i * 6)).length = i * 6 := by simp only [List.length_take, List.length_drop]; omega
  have hcl : (((cs.drop off).take (n * 6)).take (i * 6) ++ zs4).length = c3 * 6 := by rw [List.length_append, hxl, hzs10]; omega
  simp only [maxLen] at hc9
  refine RL.go rfl rfl rfl (Ex.as (v := (.slice (some ⟨b2, 0, none⟩) (i + (n + m - i)) c3)) rfl) ?_
  refine RL.nil (thn.n (CW.seq (CW.region ?_)))
  refine RL.go rfl rfl rfl (Ex.mv (v := (.slice (some ⟨b2, 0, none⟩) (i + (n + m - i)) c3)) rfl) ?_
  refine RL.go rfl rfl rfl (Ex.mv (v := (.int .i64 (i : Int))) rfl) ?_
  refine RL.go rfl rfl rfl (Ex.slLoB (i := i) (o' := 0 + i * 6) (n' := (i + (n + m - i)) - i) (c' := c3 - i) Tryz.underlying65 Tryz.sizeOf67 rfl rfl (by first | rfl | omega | (simp; omega)) (by omega) (by omega) rfl rfl rfl) ?_
  refine RL.go rfl rfl rfl (Ex.mv (v := (.slice (some ⟨vb, 0, none⟩) m m)) rfl) ?_
  have o12 := (hv.st0 g7)
  refine RL.cpy (o := 0 + i * 6) (dl := i + (n + m - i) - i) Tryz.underlying65 Tryz.sizeOf67 o11 rfl (by  omega) (Src.ob (off := 0) (m := m) o12 rfl (by omega)) (by exact fun u hu => h1v u (List.mem_of_mem_drop (List.mem_of_mem_take (List.mem_of_mem_take hu)))) rfl rfl ?_
  intro w13 hz14 g15 o16
  rw [show (((vcs).drop (0)).take ((m) * 6)).take (min (m) (i + (n + m - i) - i) * 6) = vcs from (by rw [List.drop_zero, List.take_take]; exact List.take_of_length_le (by omega))] at o16
  have hlA : (pt (((cs.drop off).take (n * 6)).take (i * 6) ++ zs4) (0 + i * 6) (vcs)).length = (((cs.drop off).take (n * 6)).take (i * 6) ++ zs4).length := pt_length (by first | omega | (simp only [List.length_drop, List.length_take]; omega))
  have z17 := g15.size
  refine RL.nil (thn.n (CW.seq ?_))
  refine CW.quietTail 8 (fun wq => World.grownBy w13 wq none) Tryz.mixed (by kernel_rfl) ⟨rfl, rfl, rfl, Nat.le_refl _, fun _ _ _ => rfl⟩ ?_
  refine QL.go rfl rfl rfl (fun wq gq => Ex.mv (v := (.slice (some ⟨b2, 0, none⟩) (i + (n + m - i)) c3)) rfl) ?_
  refine QL.go rfl rfl rfl (fun wq gq => Ex.mv (v := (.int .i64 (i : Int))) rfl) ?_
  refine QL.go rfl rfl rfl (fun wq gq => Ex.mv (v := (.int .i64 (m : Nat))) rfl) ?_
  refine QL.go rfl rfl rfl (fun wq gq => Ex.add (r := (i : Int) + (m : Nat)) rfl rfl (w64 (by omega) (by omega))) ?_
  refine QL.go rfl rfl rfl (fun wq gq => Ex.slLoB (i := (i + m)) (o' := 0 + (i + m) * 6) (n' := (i + (n + m - i)) - (i + m)) (c' := c3 - (i + m)) Tryz.underlying65 Tryz.sizeOf67 rfl rfl (by first | rfl | omega | (simp; omega)) (by omega) (by omega) rfl rfl rfl) ?_
  refine QL.go rfl rfl rfl (fun wq gq => Ex.mv (v := (.slice (some ⟨g, off, none⟩) n c)) rfl) ?_
  refine QL.go rfl rfl rfl (fun wq gq => Ex.mv (v := (.int .i64 (i : Int))) rfl) ?_
  refine QL.go rfl rfl rfl (fun wq gq => Ex.slLoB (i := i) (o' := off + i * 6) (n' := n - i) (c' := c - i) Tryz.underlying65 Tryz.sizeOf67 rfl rfl (by first | rfl | omega | (simp; omega)) (by omega) (by omega) rfl rfl rfl) ?_
  refine QL.nil ?_
  intro w18 g19
  have z20 := g19.size
  have o21 := (o16.st0 g19)
  have o22 := (((ho.st0 g7).st1 g15 (by omega)).st0 g19)
  refine RL.cpy (o := 0 + (i + m) * 6) (dl := i + (n + m - i) - (i + m)) Tryz.underlying65 Tryz.sizeOf67 o21 rfl (by  omega) (Src.ob (off := off + i * 6) (m := n - i) o22 rfl (by omega)) (by rw [seg_eq (off := off) (I := i * 6) (N := n * 6) (by omega) (by omega) (by omega)]; exact fun u hu => h1x u (List.mem_of_mem_drop hu)) rfl rfl ?_
  intro w23 hz24 g25 o26
  rw [show (((cs).drop (off + i * 6)).take ((n - i) * 6)).take (min (n - i) (i + (n + m - i) - (i + m)) * 6) = ((cs.drop off).take (n * 6)).drop (i * 6) from seg_eq (by omega) (by omega) (by omega)] at o26
  have z27 := g25.size
  refine RL.nil (thn.n (CW.seq (CW.region ?_)))
  refine RL.go rfl rfl rfl (Ex.mv (v := (.slice (some ⟨b2, 0, none⟩) (i + (n + m - i)) c3)) rfl) ?_
  refine RL.go rfl rfl rfl (Ex.as (v := (.slice (some ⟨b2, 0, none⟩) (i + (n + m - i)) c3)) rfl) ?_
  refine RL.nil (thn.n (CW.ret (thn.r ?_)))
  refine finQ.r (v := (.slice (some ⟨b2, 0, none⟩) (i + (n + m - i)) c3)) (res1 rfl rfl) ?_
  exact ⟨b2, c3, zs4, by rw [show i + (n + m - i) = n + m by omega], (grow_new (grow_trans (grow_new (g7) g15 (by omega)) g19) g25 (by omega)), by omega, by omega, by simp only [maxLen]; omega, by omega, o26⟩
set_option maxHeartbeats 400000 in
set_option maxRecDepth 20000 in
theorem insVoteEG (w : World) (g vb off n c i m : Nat) (cs vcs : List Value) (ho : Ob w g 67 cs) (hv : Ob w vb 67 vcs) (hl : off + c * 6 ≤ cs.length) (hvl : vcs.length = m * 6) (hm : 0 < m) (hnc : n ≤ c) (hcm : c ≤ 9223372036854775807) (hmm : m ≤ 140737488355328) (hi : i = n) (hr : c < n + m) (hby : (n + m) * 64 ≤ 140737488355328) (h1v : ∀ u ∈ vcs, u.oneCell' = true) : Ret Tryz.prog 119 [(.slice (some ⟨g, off, none⟩) n c), (.int .i64 (i : Int)), (.slice (some ⟨vb, 0, none⟩) m m)] w (fun v w' => ∃ (b c' : Nat) (zs : List Value), v = .slice (some ⟨b, 0, none⟩) (n + m) c' ∧ w.grownBy w' none ∧ w.heap.size ≤ b ∧ n + m ≤ c' ∧ c' ≤ maxLen ∧ zs.length = (c' - (n + m)) * 6 ∧ Ob w' b 67 ((cs.drop off).take (n * 6) ++ vcs ++ zs)) := by
  refine Ret.body Tryz.func119 rfl rfl rfl ?_
  refine CW.seq (CW.region ?_)
  refine RL.go rfl rfl rfl (Ex.as (v := (.slice none 0 0)) rfl) ?_
  refine RL.nil (thn.n (CW.seq (CW.region ?_)))
  refine RL.go rfl rfl rfl (Ex.mv (v := (.slice (some ⟨g, off, none⟩) n c)) rfl) ?_
  refine RL.go rfl rfl rfl (Ex.mv (v := (.int .i64 (i : Int))) rfl) ?_
  refine RL.go rfl rfl rfl (Ex.slLo (n := n) (i := i) Tryz.underlying65 Tryz.sizeOf67 rfl rfl rfl (by omega) rfl) ?_
  refine RL.nil (thn.n (CW.seq (CW.region ?_)))
  refine RL.go rfl rfl rfl (Ex.mv (v := (.slice (some ⟨vb, 0, none⟩) m m)) rfl) ?_
  refine RL.go rfl rfl rfl (Ex.len Tryz.underlying65 rfl) ?_
  refine RL.go rfl rfl rfl (Ex.as (v := (.int .i64 (m : Nat))) rfl) ?_
  refine RL.nil (thn.n (CW.seq (CW.seq (CW.region ?_))))
  refine RL.go rfl rfl rfl (Ex.mv (v := (.int .i64 (m : Nat))) rfl) ?_
  refine RL.go rfl rfl rfl (Ex.eqD (r := false) rfl rfl (decide_eq_false (by omega))) ?_
  refine RL.nil (thn.n (CW.condF rfl (CW.skip (thn.n (CW.seq (CW.region ?_))))))
  refine RL.go rfl rfl rfl (Ex.mv (v := (.slice (some ⟨g, off, none⟩) n c)) rfl) ?_
  refine RL.go rfl rfl rfl (Ex.len Tryz.underlying65 rfl) ?_
  refine RL.go rfl rfl rfl (Ex.as (v := (.int .i64 (n : Nat))) rfl) ?_
  refine RL.nil (thn.n (CW.seq (CW.seq (CW.region ?_))))
  refine RL.go rfl rfl rfl (Ex.mv (v := (.int .i64 (i : Int))) rfl) ?_
  refine RL.go rfl rfl rfl (Ex.mv (v := (.int .i64 (n : Nat))) rfl) ?_
  refine RL.go rfl rfl rfl (Ex.eqD (r := true) rfl rfl (decide_eq_true (by omega))) ?_
  refine RL.nil (thn.n (CW.condT rfl (CW.seq (CW.region ?_))))
  refine RL.go rfl rfl rfl (Ex.mv (v := (.slice (some ⟨g, off, none⟩) n c)) rfl) ?_
  refine RL.go rfl rfl rfl (Ex.mv (v := (.slice (some ⟨vb, 0, none⟩) m m)) rfl) ?_
  refine RL.apG (n := n) (m := m) (xs := (cs.drop off).take (n * 6)) (ys := vcs) el65 rfl (Src.ob (off := off) ho rfl (by omega)) (by omega) (Src.ob (off := 0) hv (by rw [List.drop_zero]; exact List.take_of_length_le (by omega)) (by omega)) (by omega) (by omega) rfl rfl ?_
  intro w1 b2 c3 zs4 hb5 hz6 g7 hc8 hc9 hzs10 o11
  refine RL.go rfl rfl rfl (Ex.as (v := (.slice (some ⟨b2, 0, none⟩) (n + m) c3)) rfl) ?_
  refine RL.nil (thn.n (CW.ret (thn.r ?_)))
  refine finQ.r (v := (.slice (some ⟨b2, 0, none⟩) (n + m) c3)) (res1 rfl rfl) ?_
  exact ⟨b2, c3, zs4, rfl, (g7), by omega, hc8, hc9, hzs10, o11⟩
set_option maxHeartbeats 400000 in
set_option maxRecDepth 20000 in
theorem insVoteNG (w : World) (vb m : Nat) (vcs : List Value) (hv : Ob w vb 67 vcs) (hvl : vcs.length = m * 6) (hm : 0 < m) (hmm : m ≤ 140737488355328) (hby : m * 64 ≤ 140737488355328) : Ret Tryz.prog 119 [(.slice none 0 0), (.int .i64 0), (.slice (some ⟨vb, 0, none⟩) m m)] w (fun v w' => ∃ (b c' : Nat) (zs : List Value), v = .slice (some ⟨b, 0, none⟩) (0 + m) c' ∧ w.grownBy w' none ∧ w.heap.size ≤ b ∧ 0 + m ≤ c' ∧ c' ≤ maxLen ∧ zs.length = (c' - (0 + m)) * 6 ∧ Ob w' b 67 (([] : List (List Value)).flatten ++ vcs ++ zs)) := by
  refine Ret.body Tryz.func119 rfl rfl rfl ?_
  refine CW.seq (CW.region ?_)
  refine RL.go rfl rfl rfl (Ex.as (v := (.slice none 0 0)) rfl) ?_
  refine RL.nil (thn.n (CW.seq (CW.region ?_)))
  refine RL.go rfl rfl rfl (Ex.mv (v := (.slice none 0 0)) rfl) ?_
  refine RL.go rfl rfl rfl (Ex.mv (v := (.int .i64 0)) rfl) ?_
  refine RL.go rfl rfl rfl (Ex.slLo (n := 0) (i := 0) Tryz.underlying65 Tryz.sizeOf67 rfl rfl rfl (by omega) rfl) ?_
  refine RL.nil (thn.n (CW.seq (CW.region ?_)))
  refine RL.go rfl rfl rfl (Ex.mv (v := (.slice (some ⟨vb, 0, none⟩) m m)) rfl) ?_
  refine RL.go rfl rfl rfl (Ex.len Tryz.underlying65 rfl) ?_
  refine RL.go rfl rfl rfl (Ex.as (v := (.int .i64 (m : Nat))) rfl) ?_
  refine RL.nil (thn.n (CW.seq (CW.seq (CW.region ?_))))
  refine RL.go rfl rfl rfl (Ex.mv (v := (.int .i64 (m : Nat))) rfl) ?_
  refine RL.go rfl rfl rfl (Ex.eqD (r := false) rfl rfl (decide_eq_false (by omega))) ?_
  refine RL.nil (thn.n (CW.condF rfl (CW.skip (thn.n (CW.seq (CW.region ?_))))))
  refine RL.go rfl rfl rfl (Ex.mv (v := (.slice none 0 0)) rfl) ?_
  refine RL.go rfl rfl rfl (Ex.len Tryz.underlying65 rfl) ?_
  refine RL.go rfl rfl rfl (Ex.as (v := (.int .i64 0)) rfl) ?_
  refine RL.nil (thn.n (CW.seq (CW.seq (CW.region ?_))))
  refine RL.go rfl rfl rfl (Ex.mv (v := (.int .i64 0)) rfl) ?_
  refine RL.go rfl rfl rfl (Ex.mv (v := (.int .i64 0)) rfl) ?_
  refine RL.go rfl rfl rfl (Ex.eqD (r := true) rfl rfl (by decide)) ?_
  refine RL.nil (thn.n (CW.condT rfl (CW.seq (CW.region ?_))))
  refine RL.go rfl rfl rfl (Ex.mv (v := (.slice none 0 0)) rfl) ?_
  refine RL.go rfl rfl rfl (Ex.mv (v := (.slice (some ⟨vb, 0, none⟩) m m)) rfl) ?_
  refine RL.apG (n := 0) (m := m) (xs := ([] : List (List Value)).flatten) (ys := vcs) el65 rfl (Src.rd_ (Rd.nil_ _ 0 _ none) rfl) (by omega) (Src.ob (off := 0) hv (by rw [List.drop_zero]; exact List.take_of_length_le (by omega)) (by omega)) (by omega) (by omega) rfl rfl ?_
  intro w1 b2 c3 zs4 hb5 hz6 g7 hc8 hc9 hzs10 o11
  refine RL.go rfl rfl rfl (Ex.as (v := (.slice (some ⟨b2, 0, none⟩) (0 + m) c3)) rfl) ?_
  refine RL.nil (thn.n (CW.ret (thn.r ?_)))
  refine finQ.r (v := (.slice (some ⟨b2, 0, none⟩) (0 + m) c3)) (res1 rfl rfl) ?_
  exact ⟨b2, c3, zs4, rfl, (g7), by omega, hc8, hc9, hzs10, o11⟩
set_option maxHeartbeats 1000000 in
theorem insVote (w : World) (base n c i m vb : Nat) (A : Option Addr) (xss vss : List (List Value)) (hw : Wr w base 67 6 A n c xss) (hv : Ob w vb 67 vss.flatten) (hvl : vss.length = m) (hva : ∀ x ∈ vss, x.length = 6) (hm : 0 < m) (hi : i ≤ n)
    (hne : (Value.slice A n c).ownBlock ≠ some vb) (h1x : ∀ u ∈ xss.flatten, u.oneCell' = true) (h1v : ∀ u ∈ vss.flatten, u.oneCell' = true) (hby : (n + m) * 64 ≤ 140737488355328) (hbase : base ≤ w.heap.size) :
    Ret Tryz.prog 119 [.slice A n c, .int .i64 (i : Int), .slice (some ⟨vb, 0, none⟩) m m] w (fun v w' => ∃ (A' : Option Addr) (c' : Nat), v = .slice A' (n + m) c' ∧ w.grownBy w' (Value.slice A n c).ownBlock ∧ Wr w' base 67 6 A' (n + m) c' (xss.take i ++ vss ++ xss.drop i) ∧ Nx w A A') := by
  have hvf : vss.flatten.length = m * 6 := by rw [flat_len hva, hvl]
  have hall : ∀ x ∈ xss.take i ++ vss ++ xss.drop i, x.length = 6 := by
    intro x hx
    rcases List.mem_append.1 hx with hx | hx
    · rcases List.mem_append.1 hx with hx | hx
      · exact hw.all x (List.mem_of_mem_take hx)
      · exact hva x hx
    · exact hw.all x (List.mem_of_mem_drop hx)
  have hxl := hw.len
  have hlen : (xss.take i ++ vss ++ xss.drop i).length = n + m := by simp only [List.length_append, List.length_take, List.length_drop]; omega
  have hfl : (xss.take i ++ vss ++ xss.drop i).flatten = xss.flatten.take (i * 6) ++ vss.flatten ++ xss.flatten.drop (i * 6) := by
    rw [List.flatten_append, List.flatten_append, flat_take i hw.all, flat_drop i hw.all]
  have hXl : xss.flatten.length = n * 6 := by rw [flat_len hw.all, hxl]
  rcases hw.row with ⟨hA, hn0, hc0⟩ | ⟨g, off, cs, hA, hbg, ho, hl, hnc, hcm, hX⟩
  · subst hA; subst hn0; subst hc0
    have hi0 : i = 0 := by omega
    subst hi0
    have hx0 : xss = [] := List.eq_nil_of_length_eq_zero hxl
    subst hx0
    refine (insVoteNG w vb m vss.flatten hv hvf hm (by omega) (by omega)).mono ?_
    rintro v w' ⟨b, c', zs, rfl, hg, hb, h1, h2, h3, ob⟩
    refine ⟨_, _, rfl, hg, ⟨hlen, hall, .inr ⟨b, 0, _, rfl, by omega, ob, ?_, h1, h2, ?_⟩⟩, fun g0 hg0 => .inr (by simp only [bk, Option.map_some, Option.some.injEq] at hg0; omega)⟩
    · simp only [List.length_append, List.flatten_nil, List.length_nil, hvf, h3]; omega
    · rw [hfl]; simp only [List.flatten_nil, List.nil_append, List.take_nil, List.drop_nil, List.append_nil, List.drop_zero]
      rw [List.take_append_of_le_length (by omega), List.take_of_length_le (by omega)]
  · subst hA
    have hcm' : c ≤ 9223372036854775807 := by simpa only [maxLen] using hcm
    have hgv : g ≠ vb := by rintro rfl; exact hne rfl
    rcases Nat.lt_or_ge c (n + m) with hr | hr
    · rcases Nat.lt_or_ge i n with hin | hin
      · refine (insVoteMG w g vb off n c i m cs vss.flatten ho hv hl hvf hm hnc hcm' (by omega) hin hr hby (by rw [hX]; exact h1x) h1v).mono ?_
        rintro v w' ⟨b, c', zs, rfl, hg, hb, h1, h2, h3, ob⟩
        rw [hX, Nat.zero_add, Nat.zero_add, Nat.add_mul] at ob
        refine ⟨_, _, rfl, grow_any hg _, ⟨hlen, hall, .inr ⟨b, 0, _, rfl, by omega, ob, ?_, h1, h2, ?_⟩⟩, fun g0 hg0 => .inr (by simp only [bk, Option.map_some, Option.some.injEq] at hg0; omega)⟩
        · have p0 : (xss.flatten.take (i * 6) ++ zs).length = c' * 6 := by rw [List.length_append, List.length_take]; omega
          have p1 : (pt (xss.flatten.take (i * 6) ++ zs) (i * 6) vss.flatten).length = c' * 6 := by rw [pt_length (by omega), p0]
          rw [pt_length (by rw [p1, List.length_drop]; omega), p1]; omega
        · rw [hfl, show (n + m) * 6 = n * 6 + m * 6 by omega]
          exact ins_new (L := c' * 6) hXl hvf (by omega) h3 (by omega)
      · have hin : i = n := by omega
        subst hin
        refine (insVoteEG w g vb off i c i m cs vss.flatten ho hv hl hvf hm hnc hcm' (by omega) rfl hr hby h1v).mono ?_
        rintro v w' ⟨b, c', zs, rfl, hg, hb, h1, h2, h3, ob⟩
        rw [hX] at ob
        refine ⟨_, _, rfl, grow_any hg _, ⟨hlen, hall, .inr ⟨b, 0, _, rfl, by omega, ob, ?_, h1, h2, ?_⟩⟩, fun g0 hg0 => .inr (by simp only [bk, Option.map_some, Option.some.injEq] at hg0; omega)⟩
        · simp only [List.length_append, hXl, hvf, h3]; omega
        · rw [hfl, List.drop_zero, List.take_append_of_le_length (by simp only [List.length_append, hXl, hvf]; omega), List.take_of_length_le (by simp only [List.length_append, hXl, hvf]; omega), List.take_of_length_le (by omega), List.drop_eq_nil_of_le (by omega), List.append_nil]
    · rcases Nat.lt_or_ge i n with hin | hin
      · refine (insVoteMR w g vb off n c i m cs vss.flatten ho hv hl hvf hm hnc hcm' (by omega) hgv hin hr (by rw [hX]; exact h1x) h1v).mono ?_
        rintro v w' ⟨rfl, hg, ob⟩
        rw [hX] at ob
        refine ⟨_, _, rfl, hg, ⟨hlen, hall, .inr ⟨g, off, _, rfl, hbg, ob, ?_, hr, hcm, ?_⟩⟩, Nx.refl_ _ _⟩
        · have p1 : (pt cs (off + (i + m) * 6) (xss.flatten.drop (i * 6))).length = cs.length := pt_length (by rw [List.length_drop]; omega)
          rw [pt_length (by rw [p1]; omega), p1]; omega
        · rw [hfl, show (n + m) * 6 = n * 6 + m * 6 by omega, show off + (i + m) * 6 = off + i * 6 + m * 6 by omega]
          exact ins_room hX hXl hvf (by omega) (by omega)
      · have hin : i = n := by omega
        subst hin
        refine (insVoteER w g vb off i c i m cs vss.flatten ho hv hl hvf hm hnc hcm' (by omega) rfl hr h1v).mono ?_
        rintro v w' ⟨rfl, hg, ob⟩
        refine ⟨_, _, rfl, hg, ⟨hlen, hall, .inr ⟨g, off, _, rfl, hbg, ob, ?_, hr, hcm, ?_⟩⟩, Nx.refl_ _ _⟩
        · rw [pt_length (by omega)]; omega
        · have h0 := ins_room (V := vss.flatten) (I := i * 6) hX hXl hvf (Nat.le_refl _) (by omega)
          have e0 : xss.flatten.drop (i * 6) = [] := List.drop_eq_nil_of_le (by omega)
          rw [e0] at h0
          have e1 : pt cs (off + i * 6 + m * 6) [] = cs := by simp [pt]
          rw [e1] at h0
          rw [hfl, show (i + m) * 6 = i * 6 + m * 6 by omega, e0]
          exact h0
end Go.Proofs.YtfokljnhllflbaaGreat
namespace Go.Proofs.YtfokljnhllflbaaGreat
open Go Go.Eng Go.RowKit
set_option maxHeartbeats 2000000 in
set_option maxRecDepth 20000 in
theorem addV_ (w : World) (B : Nat) (l : List RVote) (A : Option Addr) (n c : Nat) (hr : Rd w B 6 A (rvotes l)) (hv : VtR w B l) (hB : B ≤ w.heap.size) (hn : n = l.length) (hm : n ≤ 1000000) (hvb : ∀ r ∈ l, r.v.ents.length ≤ 1000000) (x : Vote) (Ax : Option Addr) (nx cx : Nat) (hrx : Rd w B 11 Ax (ents x.ents)) (hnx : nx = x.ents.length) (hmx : nx ≤ 1000000) (hcx : nx ≤ cx) : Ret Tryz.prog 51 [(.slice A n c), (.agg ([(.int .i64 x.node), (.int .i64 x.normal), (.int .i64 x.base), (.int .i64 x.number), (.int .i64 x.commit), (.slice Ax nx cx)]).toArray)] w (fun v w' => ∃ (A' : Option Addr) (n' c' : Nat) (rs : List RVote), v = .slice A' n' c' ∧ Sp ([RowA 67 6 A' n' c' (rvotes rs), EnO rs] ++ [Fix w NoB]) w' ∧ rs.map RVote.v = addV (l.map RVote.v) x) := by
  have H0 : Sp [Fix w NoB] w := Sp.start w
  refine Ret.body Tryz.func51 rfl rfl rfl ?_
  refine CW.seq (CW.region ?_)
  refine RL.bx (cs := [(.int .i64 x.node), (.int .i64 x.normal), (.int .i64 x.base), (.int .i64 x.number), (.int .i64 x.commit), (.slice Ax nx cx)]) rfl rfl rfl ?_
  intro w1 b2 hb3 hz4 g5 o6
  have H7 := H0.newB g5 o6 (by omega)
  have z8 := g5.size
  refine RL.go rfl rfl rfl (Ex.as (v := (.slice none 0 0)) rfl) ?_
  refine RL.nil (thn.n (CW.seq (CW.region ?_)))
  refine RL.go rfl rfl rfl (Ex.mv (v := (.slice A n c)) rfl) ?_
  refine RL.call Tryz.call115 (eachO_ _ _ l A n c ((hr.st0 (H7.fix (i := 1) rfl)).more (by omega)) ((show VtR _ _ _ from hv.st0 (H7.fix (i := 1) rfl)).more (by omega)) (Nat.le_refl _) (by omega) (by omega) hvb) rfl rfl rfl ?_
  rintro _ w16 ⟨A9, n10, c11, rs12, rfl, g17, hmp13⟩
  have g18 := g17.fix (i := 2) rfl
  have H19 : Sp [RowA 67 6 A9 n10 c11 (rvotes rs12), EnO rs12, BlkA b2 67 [(.int .i64 x.node), (.int .i64 x.normal), (.int .i64 x.base), (.int .i64 x.number), (.int .i64 x.commit), (.slice Ax nx cx)], Fix w NoB] w16 := H7.join (m := [RowA 67 6 A9 n10 c11 (rvotes rs12), EnO rs12]) g17
  have z20 := g18.size
  have hlm15 := congrArg List.length hmp13
  rw [List.length_map, List.length_map] at hlm15
  refine RL.go rfl rfl rfl (Ex.mkf (v := (.func (.func 116) #[] #[(.pointer (some ⟨b2, 0, none⟩))])) rfl) ?_
  have hl22 := H19.len (i := 0) rfl
  rw [rvotes_length] at hl22
  obtain ⟨S23, hS24, hO25, K26⟩ := Sp.takeL (l1 := [RowA 67 6 A9 n10 c11 (rvotes rs12), BlkA b2 67 [(.int .i64 x.node), (.int .i64 x.normal), (.int .i64 x.base), (.int .i64 x.number), (.int .i64 x.commit), (.slice Ax nx cx)]]) (l2 := [EnO rs12, Fix w NoB]) (w := w16) (H19.sel [0, 2, 1, 3] (by decide) rfl)
  refine RL.call Tryz.call114 (delV_ _ S23 b2 x Ax nx cx rs12 A9 n10 c11 hS24 (by omega)) rfl rfl rfl ?_
  rintro _ w27 ⟨n21, rfl, g28⟩
  have H29 : Sp [RowA 67 6 A9 n21 c11 (rvotes (rs12.filter (fun r => !decide (r.v.node = x.node)))), BlkA b2 67 [(.int .i64 x.node), (.int .i64 x.normal), (.int .i64 x.base), (.int .i64 x.number), (.int .i64 x.commit), (.slice Ax nx cx)], EnO rs12, Fix w NoB] w27 := K26 _ _ g28
  have z30 := (H29.fix (i := 3) rfl).size
  refine RL.go rfl rfl rfl (Ex.as (v := (.slice A9 n21 c11)) rfl) ?_
  refine RL.nil (thn.n (CW.seq (CW.region ?_)))
  have H31 : Sp [RowA 67 6 A9 n21 c11 (rvotes (rs12.filter (fun r => !decide (r.v.node = x.node)))), BlkA b2 67 [(.int .i64 x.node), (.int .i64 x.normal), (.int .i64 x.base), (.int .i64 x.number), (.int .i64 x.commit), (.slice Ax nx cx)], EnO (rs12.filter (fun r => !decide (r.v.node = x.node))), Fix w NoB] w27 := H29.enSub (i := 2) (rs' := (rs12.filter (fun r => !decide (r.v.node = x.node)))) rfl (fun r hr => (List.mem_filter.1 hr).1) rfl
  have hl32 := H31.len (i := 0) rfl
  rw [rvotes_length] at hl32
  have hlf := List.length_filter_le (fun r : RVote => !decide (r.v.node = x.node)) rs12
  refine RL.go rfl rfl rfl (Ex.mv (v := (.slice A9 n21 c11)) rfl) ?_
  refine RL.go rfl rfl rfl (Ex.mkf (v := (.func (.func 118) #[] #[(.pointer (some ⟨b2, 0, none⟩))])) rfl) ?_
  have hl33 := H31.len (i := 0) rfl
  rw [rvotes_length] at hl33
  refine RL.call Tryz.call117 (ixV2 _ b2 x Ax nx cx (H31.ob (i := 1) rfl) _ (rs12.filter (fun r => !decide (r.v.node = x.node))) A9 n21 c11 (H31.rowrd (i := 0) rfl) (by omega) (by omega)) rfl rfl rfl ?_
  rintro _ w34 ⟨rfl, g35⟩
  have H36 := H31.grow g35
  have z37 := g35.size
  refine RL.go rfl rfl rfl (Ex.as (v := (.int .i64 ((idxF (fun r => decide (x.node < r.v.node)) (rs12.filter (fun r => !decide (r.v.node = x.node))))))) rfl) ?_
  refine RL.nil (thn.n (CW.seq (CW.seq (CW.region ?_))))
  refine RL.go rfl rfl rfl (Ex.mv (v := (.int .i64 ((idxF (fun r => decide (x.node < r.v.node)) (rs12.filter (fun r => !decide (r.v.node = x.node))))))) rfl) ?_
  refine RL.br (p := ((idxF (fun r => decide (x.node < r.v.node)) (rs12.filter (fun r => !decide (r.v.node = x.node)))) : Int) < (0 : Int)) rfl rfl rfl (fun r hr => Ex.lt rfl rfl hr) (fun h38 => ?_) (fun h38 => ?_)
  ·skip
   refine RL.nil (thn.n (CW.condT rfl (CW.region ?_)))
   have hpos : posV (fun r : RVote => decide (x.node < r.v.node)) (rs12.filter (fun r => !decide (r.v.node = x.node))) = n21 := by rw [posV_neg h38]; omega
   refine RL.go rfl rfl rfl (Ex.mv (v := (.slice A9 n21 c11)) rfl) ?_
   refine RL.go rfl rfl rfl (Ex.len Tryz.underlying65 rfl) ?_
   refine RL.go rfl rfl rfl (Ex.as (v := (.int .i64 (n21 : Nat))) rfl) ?_
   refine RL.nil (thn.n (CW.seq (CW.region ?_)))
   have hi0n : n21 ≤ n21 := Nat.le_refl _
   refine RL.go rfl rfl rfl (Ex.mv (v := (.slice A9 n21 c11)) rfl) ?_
   refine RL.go rfl rfl rfl (Ex.mv (v := (.int .i64 (n21 : Nat))) rfl) ?_
   refine RL.go rfl rfl rfl (Ex.ldv rfl (loadCN (cs := [(.int .i64 x.node), (.int .i64 x.normal), (.int .i64 x.base), (.int .i64 x.number), (.int .i64 x.commit), (.slice Ax nx cx)]) wh67 (H36.ob (i := 1) rfl).cl)) ?_
   refine RL.call Tryz.call113 (own_ _ _ x Ax nx cx (hrx.st0 (H36.fix (i := 3) rfl)) (by omega) (by first | assumption | rfl | omega) (by first | assumption | rfl | omega) (by first | assumption | rfl | omega)) rfl rfl rfl ?_
   rintro _ w41 ⟨A39, c40, rfl, g42⟩
   have g43 := g42.fix (i := 1) rfl
   have H44 : Sp [RowA 31 11 A39 nx c40 (ents x.ents), RowA 67 6 A9 n21 c11 (rvotes (rs12.filter (fun r => !decide (r.v.node = x.node)))), BlkA b2 67 [(.int .i64 x.node), (.int .i64 x.normal), (.int .i64 x.base), (.int .i64 x.number), (.int .i64 x.commit), (.slice Ax nx cx)], EnO (rs12.filter (fun r => !decide (r.v.node = x.node))), Fix w NoB] w41 := H36.join (m := [RowA 31 11 A39 nx c40 (ents x.ents)]) g42
   have z45 := g43.size
   refine RL.bs (cs := [(.int .i64 x.node), (.int .i64 x.normal), (.int .i64 x.base), (.int .i64 x.number), (.int .i64 x.commit), (.slice A39 nx c40)]) Tryz.underlying65 Tryz.sizeOf67 ze65 rfl rfl rfl (by decide) rfl rfl rfl ?_
   intro w46 b47 hb48 hz49 g50 o51
   have H52 := H44.newB g50 o51 (by omega)
   have z53 := g50.size
   refine RL.call Tryz.call119 (insVote _ 0 n21 c11 n21 1 b47 A9 (rvotes (rs12.filter (fun r => !decide (r.v.node = x.node)))) (rvotes [(⟨x, ⟨A39, nx, c40⟩⟩ : RVote)]) (H52.wr (i := 2) rfl) (by exact (H52.ob (i := 0) rfl)) rfl (rvotes_k _) (by omega) (by omega) (H52.ne_rb (i := 2) (j := 0) rfl rfl (by decide)) (rvotes_one _) (rvotes_one _) (by omega) (Nat.zero_le _)) rfl rfl rfl ?_
   rintro _ w54 ⟨A55, c56, rfl, g57, ow58, nx59⟩
   rw [rvotes_take, rvotes_drop, ← rvotes_app, ← rvotes_app] at ow58
   have H61 : Sp [BlkA b47 67 [(.int .i64 x.node), (.int .i64 x.normal), (.int .i64 x.base), (.int .i64 x.number), (.int .i64 x.commit), (.slice A39 nx c40)], RowA 31 11 A39 nx c40 (ents x.ents), RowA 67 6 A55 (n21 + 1) c56 (rvotes (((rs12.filter (fun r => !decide (r.v.node = x.node))).take n21 ++ [(⟨x, ⟨A39, nx, c40⟩⟩ : RVote)] ++ (rs12.filter (fun r => !decide (r.v.node = x.node))).drop n21))), BlkA b2 67 [(.int .i64 x.node), (.int .i64 x.normal), (.int .i64 x.base), (.int .i64 x.number), (.int .i64 x.commit), (.slice Ax nx cx)], EnO (rs12.filter (fun r => !decide (r.v.node = x.node))), Fix w NoB] w54 := H52.setR (i := 2) rfl g57 ow58 nx59 rfl
   have z62 := g57.size
   have H63 : Sp [EnO ((rs12.filter (fun r => !decide (r.v.node = x.node))) ++ [(⟨x, ⟨A39, nx, c40⟩⟩ : RVote)]), BlkA b47 67 [(.int .i64 x.node), (.int .i64 x.normal), (.int .i64 x.base), (.int .i64 x.number), (.int .i64 x.commit), (.slice A39 nx c40)], RowA 67 6 A55 (n21 + 1) c56 (rvotes (((rs12.filter (fun r => !decide (r.v.node = x.node))).take n21 ++ [(⟨x, ⟨A39, nx, c40⟩⟩ : RVote)] ++ (rs12.filter (fun r => !decide (r.v.node = x.node))).drop n21))), BlkA b2 67 [(.int .i64 x.node), (.int .i64 x.normal), (.int .i64 x.base), (.int .i64 x.number), (.int .i64 x.commit), (.slice Ax nx cx)], Fix w NoB] w54 := (Sp.enSnoc (rs := (rs12.filter (fun r => !decide (r.v.node = x.node)))) (v := x) (H61.sel [4, 1, 0, 2, 3, 5] (by decide) rfl))
   have H65 : Sp [EnO ((rs12.filter (fun r => !decide (r.v.node = x.node))).take n21 ++ [(⟨x, ⟨A39, nx, c40⟩⟩ : RVote)] ++ (rs12.filter (fun r => !decide (r.v.node = x.node))).drop n21), BlkA b47 67 [(.int .i64 x.node), (.int .i64 x.normal), (.int .i64 x.base), (.int .i64 x.number), (.int .i64 x.commit), (.slice A39 nx c40)], RowA 67 6 A55 (n21 + 1) c56 (rvotes (((rs12.filter (fun r => !decide (r.v.node = x.node))).take n21 ++ [(⟨x, ⟨A39, nx, c40⟩⟩ : RVote)] ++ (rs12.filter (fun r => !decide (r.v.node = x.node))).drop n21))), BlkA b2 67 [(.int .i64 x.node), (.int .i64 x.normal), (.int .i64 x.base), (.int .i64 x.number), (.int .i64 x.commit), (.slice Ax nx cx)], Fix w NoB] w54 := H63.enSub (i := 0) (rs' := ((rs12.filter (fun r => !decide (r.v.node = x.node))).take n21 ++ [(⟨x, ⟨A39, nx, c40⟩⟩ : RVote)] ++ (rs12.filter (fun r => !decide (r.v.node = x.node))).drop n21)) rfl (fun q hq => by rcases List.mem_append.1 hq with h | h; (rcases List.mem_append.1 h with h | h; exact List.mem_append.2 (.inl (List.mem_of_mem_take h)); exact List.mem_append.2 (.inr h)); exact List.mem_append.2 (.inl (List.mem_of_mem_drop h))) rfl
   refine RL.go rfl rfl rfl (Ex.as (v := (.slice A55 (n21 + 1) c56)) rfl) ?_
   refine RL.nil (thn.n (CW.ret ?_))
   refine finQ.r (v := (.slice A55 (n21 + 1) c56)) (res1 rfl rfl) ?_
   exact ⟨_, _, _, _, rfl, (H65.sel [2, 0, 4] (by decide) rfl), by rw [addV_map hpos, hmp13]⟩
  ·skip
   refine RL.nil (thn.n (CW.condF rfl (CW.skip (thn.n (CW.seq (CW.region ?_))))))
   obtain ⟨i0, hi0, hi1, _, _, _, _⟩ := idxF_some (p := (fun r : RVote => decide (x.node < r.v.node))) (l := (rs12.filter (fun r => !decide (r.v.node = x.node)))) (by omega)
   rw [hi0]
   have hpos : posV (fun r : RVote => decide (x.node < r.v.node)) (rs12.filter (fun r => !decide (r.v.node = x.node))) = i0 := posV_nat hi0
   refine RL.go rfl rfl rfl (Ex.mv (v := (.slice A9 n21 c11)) rfl) ?_
   refine RL.go rfl rfl rfl (Ex.mv (v := (.int .i64 (i0 : Int))) rfl) ?_
   refine RL.go rfl rfl rfl (Ex.ldv rfl (loadCN (cs := [(.int .i64 x.node), (.int .i64 x.normal), (.int .i64 x.base), (.int .i64 x.number), (.int .i64 x.commit), (.slice Ax nx cx)]) wh67 (H36.ob (i := 1) rfl).cl)) ?_
   refine RL.call Tryz.call113 (own_ _ _ x Ax nx cx (hrx.st0 (H36.fix (i := 3) rfl)) (by omega) (by first | assumption | rfl | omega) (by first | assumption | rfl | omega) (by first | assumption | rfl | omega)) rfl rfl rfl ?_
   rintro _ w68 ⟨A66, c67, rfl, g69⟩
   have g70 := g69.fix (i := 1) rfl
   have H71 : Sp [RowA 31 11 A66 nx c67 (ents x.ents), RowA 67 6 A9 n21 c11 (rvotes (rs12.filter (fun r => !decide (r.v.node = x.node)))), BlkA b2 67 [(.int .i64 x.node), (.int .i64 x.normal), (.int .i64 x.base), (.int .i64 x.number), (.int .i64 x.commit), (.slice Ax nx cx)], EnO (rs12.filter (fun r => !decide (r.v.node = x.node))), Fix w NoB] w68 := H36.join (m := [RowA 31 11 A66 nx c67 (ents x.ents)]) g69
   have z72 := g70.size
   refine RL.bs (cs := [(.int .i64 x.node), (.int .i64 x.normal), (.int .i64 x.base), (.int .i64 x.number), (.int .i64 x.commit), (.slice A66 nx c67)]) Tryz.underlying65 Tryz.sizeOf67 ze65 rfl rfl rfl (by decide) rfl rfl rfl ?_
   intro w73 b74 hb75 hz76 g77 o78
   have H79 := H71.newB g77 o78 (by omega)
   have z80 := g77.size
   refine RL.call Tryz.call119 (insVote _ 0 n21 c11 i0 1 b74 A9 (rvotes (rs12.filter (fun r => !decide (r.v.node = x.node)))) (rvotes [(⟨x, ⟨A66, nx, c67⟩⟩ : RVote)]) (H79.wr (i := 2) rfl) (by exact (H79.ob (i := 0) rfl)) rfl (rvotes_k _) (by omega) (by omega) (H79.ne_rb (i := 2) (j := 0) rfl rfl (by decide)) (rvotes_one _) (rvotes_one _) (by omega) (Nat.zero_le _)) rfl rfl rfl ?_
   rintro _ w81 ⟨A82, c83, rfl, g84, ow85, nx86⟩
   rw [rvotes_take, rvotes_drop, ← rvotes_app, ← rvotes_app] at ow85
   have H88 : Sp [BlkA b74 67 [(.int .i64 x.node), (.int .i64 x.normal), (.int .i64 x.base), (.int .i64 x.number), (.int .i64 x.commit), (.slice A66 nx c67)], RowA 31 11 A66 nx c67 (ents x.ents), RowA 67 6 A82 (n21 + 1) c83 (rvotes (((rs12.filter (fun r => !decide (r.v.node = x.node))).take i0 ++ [(⟨x, ⟨A66, nx, c67⟩⟩ : RVote)] ++ (rs12.filter (fun r => !decide (r.v.node = x.node))).drop i0))), BlkA b2 67 [(.int .i64 x.node), (.int .i64 x.normal), (.int .i64 x.base), (.int .i64 x.number), (.int .i64 x.commit), (.slice Ax nx cx)], EnO (rs12.filter (fun r => !decide (r.v.node = x.node))), Fix w NoB] w81 := H79.setR (i := 2) rfl g84 ow85 nx86 rfl
   have z89 := g84.size
   have H90 : Sp [EnO ((rs12.filter (fun r => !decide (r.v.node = x.node))) ++ [(⟨x, ⟨A66, nx, c67⟩⟩ : RVote)]), BlkA b74 67 [(.int .i64 x.node), (.int .i64 x.normal), (.int .i64 x.base), (.int .i64 x.number), (.int .i64 x.commit), (.slice A66 nx c67)], RowA 67 6 A82 (n21 + 1) c83 (rvotes (((rs12.filter (fun r => !decide (r.v.node = x.node))).take i0 ++ [(⟨x, ⟨A66, nx, c67⟩⟩ : RVote)] ++ (rs12.filter (fun r => !decide (r.v.node = x.node))).drop i0))), BlkA b2 67 [(.int .i64 x.node), (.int .i64 x.normal), (.int .i64 x.base), (.int .i64 x.number), (.int .i64 x.commit), (.slice Ax nx cx)], Fix w NoB] w81 := (Sp.enSnoc (rs := (rs12.filter (fun r => !decide (r.v.node = x.node)))) (v := x) (H88.sel [4, 1, 0, 2, 3, 5] (by decide) rfl))
   have H91 : Sp [EnO ((rs12.filter (fun r => !decide (r.v.node = x.node))).take i0 ++ [(⟨x, ⟨A66, nx, c67⟩⟩ : RVote)] ++ (rs12.filter (fun r => !decide (r.v.node = x.node))).drop i0), BlkA b74 67 [(.int .i64 x.node), (.int .i64 x.normal), (.int .i64 x.base), (.int .i64 x.number), (.int .i64 x.commit), (.slice A66 nx c67)], RowA 67 6 A82 (n21 + 1) c83 (rvotes (((rs12.filter (fun r => !decide (r.v.node = x.node))).take i0 ++ [(⟨x, ⟨A66, nx, c67⟩⟩ : RVote)] ++ (rs12.filter (fun r => !decide (r.v.node = x.node))).drop i0))), BlkA b2 67 [(.int .i64 x.node), (.int .i64 x.normal), (.int .i64 x.base), (.int .i64 x.number), (.int .i64 x.commit), (.slice Ax nx cx)], Fix w NoB] w81 := H90.enSub (i := 0) (rs' := ((rs12.filter (fun r => !decide (r.v.node = x.node))).take i0 ++ [(⟨x, ⟨A66, nx, c67⟩⟩ : RVote)] ++ (rs12.filter (fun r => !decide (r.v.node = x.node))).drop i0)) rfl (fun q hq => by rcases List.mem_append.1 hq with h | h; (rcases List.mem_append.1 h with h | h; exact List.mem_append.2 (.inl (List.mem_of_mem_take h)); exact List.mem_append.2 (.inr h)); exact List.mem_append.2 (.inl (List.mem_of_mem_drop h))) rfl
   refine RL.go rfl rfl rfl (Ex.as (v := (.slice A82 (n21 + 1) c83)) rfl) ?_
   refine RL.nil (thn.n (CW.ret ?_))
   refine finQ.r (v := (.slice A82 (n21 + 1) c83)) (res1 rfl rfl) ?_
   exact ⟨_, _, _, _, rfl, (H91.sel [2, 0, 4] (by decide) rfl), by rw [addV_map hpos, hmp13]⟩
end Go.Proofs.YtfokljnhllflbaaGreat
namespace Go.Eng
open Go
theorem ent_eq {a b : Entry} (h : (a.num : Int) = b.num ∧ (a.view : Int) = b.view ∧ (a.client : Int) = b.client ∧ (a.seq : Int) = b.seq ∧ (a.op.kind : Int) = b.op.kind ∧ (a.op.h : Int) = b.op.h ∧ (a.op.i : Int) = b.op.i ∧ (a.op.n : Int) = b.op.n ∧ (a.op.k : Int) = b.op.k ∧ (a.op.v : Int) = b.op.v ∧ (a.op.t : Int) = b.op.t) : a = b := by
  obtain ⟨a1, a2, a3, a4, ⟨a5, a6, a7, a8, a9, a10, a11⟩⟩ := a
  obtain ⟨b1, b2, b3, b4, ⟨b5, b6, b7, b8, b9, b10, b11⟩⟩ := b
  obtain ⟨h1, h2, h3, h4, h5, h6, h7, h8, h9, h10, h11⟩ := h
  simp only at h1 h2 h3 h4 h5 h6 h7 h8 h9 h10 h11
  subst h1 h2 h3 h4 h5 h6 h7 h8 h9 h10 h11
  rfl
theorem take_same {α : Type} {l m : List α} {i : Nat} {a b : α} (h : l.take i = m.take i) (ha : l[i]? = some a) (hb : m[i]? = some b) (e : a = b) : l.take (i + 1) = m.take (i + 1) := by
  rw [List.take_add_one, List.take_add_one, h, ha, hb, e]
theorem ne_at {α : Type} {l m : List α} {i : Nat} {a b : α} (ha : l[i]? = some a) (hb : m[i]? = some b) (e : ¬ a = b) : ¬ l = m := fun h => by
  subst h
  rw [ha] at hb
  injection hb with hb
  exact e hb
def sameV (x y : Vote) : Bool := decide (x.node = y.node) && decide (x.normal = y.normal) && decide (x.base = y.base) && decide (x.number = y.number) && decide (x.commit = y.commit) && decide (x.ents = y.ents)
theorem sameV_eq {x y : Vote} : sameV x y = true ↔ x = y := by
  obtain ⟨x1, x2, x3, x4, x5, x6⟩ := x
  obtain ⟨y1, y2, y3, y4, y5, y6⟩ := y
  simp [sameV, and_assoc]
def tl2 : List Entry := [entR 1, entR 2]
def zVote : Vote := ⟨0, 0, 0, 0, 0, []⟩
def voteK (id : Int) (k : Kept) (commit : Int) : Vote := if keptB k then ⟨id, k.normal, k.base, lastOf k, commit, k.ents⟩ else zVote
def chkStep (nm : Int) (s : Bool × Int) (e : Entry) : Bool × Int := (s.1 && mayE e && withinB e.view s.2 nm, e.view)
def vHead (x : Vote) : Bool := withinB x.node 1 7 && withinB x.normal 0 900000000 && withinB x.base 0 900000000 && decide (x.ents.length ≤ 4000) && follB x.ents x.base
def vChkB (x : Vote) : Bool := (x.ents.foldl (chkStep x.normal) (vHead x, 0)).1 && decide (x.number = x.base + x.ents.length) && withinB x.commit x.base x.number
theorem chk_snoc {nm : Int} {l : List Entry} {i : Nat} {e : Entry} {s0 : Bool × Int} {b : Bool} {v : Int} (h : (l.take i).foldl (chkStep nm) s0 = (b, v)) (he : l[i]? = some e) : (l.take (i + 1)).foldl (chkStep nm) s0 = (b && mayE e && withinB e.view v nm, e.view) := by
  rw [List.take_add_one, he]
  simp only [Option.toList_some, List.foldl_append, h, List.foldl_cons, List.foldl_nil, chkStep]
theorem chk_head {nm : Int} : ∀ {l : List Entry} {b0 : Bool} {v v' : Int}, l.foldl (chkStep nm) (b0, v) = (true, v') → b0 = true
  | [], _, _, _, h => by injection h
  | e :: l, b0, v, v', h => by
    rw [List.foldl_cons] at h
    have := chk_head h
    simp only [Bool.and_eq_true] at this
    exact this.1.1
theorem vHead_base {x : Vote} (h : vHead x = true) : 0 ≤ x.base ∧ x.base ≤ 900000000 := by
  unfold vHead at h
  simp only [Bool.and_eq_true] at h
  exact withinB_t h.1.1.2
end Go.Eng
namespace Go.Proofs.YtfokljnhllflbaaGreat
open Go Go.Eng Go.RowKit
set_option maxHeartbeats 400000 in
set_option maxRecDepth 20000 in
theorem entSame_ (w : World) (B : Nat) (l m : List Entry) (A A2 : Option Addr) (n c n2 c2 : Nat) (hr : Rd w B 11 A (ents l)) (hn : n = l.length) (hr2 : Rd w B 11 A2 (ents m)) (hn2 : n2 = m.length) (hm : n ≤ 1099511627776) : Ret Tryz.prog 31 [(.slice A n c), (.slice A2 n2 c2)] w (fun v w' => v = .bool (decide (l = m)) ∧ w.grownBy w' none) := by
  have H0 : Sp [Fix w NoB] w := Sp.start w
  refine Ret.body Tryz.func31 rfl rfl rfl ?_
  refine CW.seq (CW.region ?_)
  refine RL.go rfl rfl rfl (Ex.as (v := (.bool false)) rfl) ?_
  refine RL.nil (thn.n (CW.seq (CW.seq (CW.region ?_))))
  refine RL.go rfl rfl rfl (Ex.mv (v := (.slice A n c)) rfl) ?_
  refine RL.go rfl rfl rfl (Ex.len Tryz.underlying22 rfl) ?_
  refine RL.go rfl rfl rfl (Ex.mv (v := (.slice A2 n2 c2)) rfl) ?_
  refine RL.go rfl rfl rfl (Ex.len Tryz.underlying22 rfl) ?_
  refine RL.br (p := ((n : Nat) : Int) ≠ ((n2 : Nat) : Int)) rfl rfl rfl (fun r hr => Ex.neD rfl rfl hr) (fun h1 => ?_) (fun h1 => ?_)
  ·skip
   refine RL.nil (thn.n (CW.condT rfl (CW.seq (CW.region ?_))))
   refine RL.go rfl rfl rfl (Ex.as (v := (.bool false)) rfl) ?_
   refine RL.nil (thn.n (CW.ret (thn.r ?_)))
   refine finQ.r (v := (.bool false)) (res1 rfl rfl) ?_
   exact ⟨ret_bool (by symm; rw [decide_eq_false_iff_not]; intro h; rw [h] at hn; omega), (H0.fix (i := 0) rfl)⟩
  ·skip
   refine RL.nil (thn.n (CW.condF rfl (CW.skip (thn.n (CW.seq (CW.seq (CW.region ?_)))))))
   refine RL.go rfl rfl rfl (Ex.as (v := (.int .i64 0)) rfl) ?_
   refine RL.nil (thn.n (CW.block ?_))
   refine CW.loop (fun t => (Nat.ble 4 t && Nat.ble t 5) || (Nat.ble 11 t && Nat.ble t 25)) (fun nL ρ wl => ∃ (i : Nat), ρ 5 = (.int .i64 (i : Int)) ∧ nL = n - i ∧ Sp [Fix w NoB] wl ∧ i ≤ n ∧ l.take i = m.take i) (n) ?aa0 ?bb0
   case aa0 =>
    exact ⟨0, rfl, rfl, H0, Nat.zero_le _, rfl⟩
   case bb0 =>
    rintro n3 ρ0 w2 ho4 ⟨i, hs0_5, hn0, H5, hi, htk⟩
    obtain ⟨j0, rfl⟩ := ho4.shape1 hs0_5
    clear ho4 hs0_5
    subst hn0
    have z6 := (H5.fix (i := 0) rfl).size
    refine CW.seq (CW.seq ?_)
    refine CW.region ?_
    refine RL.go rfl rfl rfl (Ex.mv (v := (.int .i64 (i : Int))) rfl) ?_
    refine RL.go rfl rfl rfl (Ex.mv (v := (.slice A n c)) rfl) ?_
    refine RL.go rfl rfl rfl (Ex.len Tryz.underlying22 rfl) ?_
    refine RL.br (p := ((i : Int) : Int) < ((n : Nat) : Int)) rfl rfl rfl (fun r hr => Ex.lt rfl rfl hr) (fun h7 => ?_) (fun h7 => ?_)
    ·skip
     refine RL.nil (thn.n (CW.condT rfl (CW.skip (thn.n (CW.seq (CW.block (CW.seq ?_)))))))
     refine CW.quiet (fun wq => World.grownBy w2 wq none) Tryz.mixed (by kernel_rfl) ⟨rfl, rfl, rfl, Nat.le_refl _, fun _ _ _ => rfl⟩ ?_
     refine QL.go rfl rfl rfl (fun wq gq => Ex.mv (v := (.slice A n c)) rfl) ?_
     refine QL.go rfl rfl rfl (fun wq gq => Ex.mv (v := (.int .i64 (i : Int))) rfl) ?_
     obtain ⟨e8, he9⟩ : ∃ e, (l)[i]? = some e := ⟨_, List.getElem?_eq_getElem (by omega)⟩
     obtain ⟨ad10, hA11⟩ := Rd.sm (hr.st0 (H5.fix (i := 0) rfl)) (ents_get he9)
     have hl12 := Eng.lt_len (ents_get he9)
     refine QL.go rfl rfl rfl (fun wq gq => Ex.ix (b := (ad10.add (i * 11))) (i := i) Tryz.underlying22 Tryz.sizeOf31 (by rw [← hA11]; rfl) rfl (by omega) (by omega) rfl) ?_
     refine QL.go rfl rfl rfl (fun wq gq => Ex.ldv rfl (loadCN (cs := e8.cells) wh31 (Rd.cl (hr.st0 ((H5.grow gq).fix (i := 0) rfl)) hA11 (ents_get he9)))) ?_
     refine QL.go rfl rfl rfl (fun wq gq => Ex.mv (v := (.slice A2 n2 c2)) rfl) ?_
     refine QL.go rfl rfl rfl (fun wq gq => Ex.mv (v := (.int .i64 (i : Int))) rfl) ?_
     obtain ⟨e13, he14⟩ : ∃ e, (m)[i]? = some e := ⟨_, List.getElem?_eq_getElem (by omega)⟩
     obtain ⟨ad15, hA16⟩ := Rd.sm (hr2.st0 (H5.fix (i := 0) rfl)) (ents_get he14)
     have hl17 := Eng.lt_len (ents_get he14)
     refine QL.go rfl rfl rfl (fun wq gq => Ex.ix (b := (ad15.add (i * 11))) (i := i) Tryz.underlying22 Tryz.sizeOf31 (by rw [← hA16]; rfl) rfl (by omega) (by omega) rfl) ?_
     refine QL.go rfl rfl rfl (fun wq gq => Ex.ldv rfl (loadCN (cs := e13.cells) wh31 (Rd.cl (hr2.st0 ((H5.grow gq).fix (i := 0) rfl)) hA16 (ents_get he14)))) ?_
     refine QL.br (p := ¬ ((e8.num : Int) = (e13.num : Int) ∧ (e8.view : Int) = (e13.view : Int) ∧ (e8.client : Int) = (e13.client : Int) ∧ (e8.seq : Int) = (e13.seq : Int) ∧ (e8.op.kind : Int) = (e13.op.kind : Int) ∧ (e8.op.h : Int) = (e13.op.h : Int) ∧ (e8.op.i : Int) = (e13.op.i : Int) ∧ (e8.op.n : Int) = (e13.op.n : Int) ∧ (e8.op.k : Int) = (e13.op.k : Int) ∧ (e8.op.v : Int) = (e13.op.v : Int) ∧ (e8.op.t : Int) = (e13.op.t : Int))) rfl rfl rfl (fun r hr wq gq => Ex.neS (xs := e8.cells) (ys := e13.cells) Tryz.eqGuardType31 (eqT31 (by rw [← hr]; simp)) rfl rfl) (fun h18 => ?_) (fun h18 => ?_)
     ·skip
      refine QL.nil ?_
      intro w19 g20
      have H21 := H5.grow g20
      have z22 := g20.size
      refine thn.n (CW.condT rfl ?_)
      refine CW.seq (CW.region ?_)
      refine RL.go rfl rfl rfl (Ex.as (v := (.bool false)) rfl) ?_
      refine RL.nil (thn.n (CW.ret (inB.r (thn.r (thn.r (inB.r (thn.r ?_)))))))
      refine finQ.r (v := (.bool false)) (res1 rfl rfl) ?_
      exact ⟨ret_bool (by symm; rw [decide_eq_false_iff_not]; exact ne_at he9 he14 (fun h => h18 (by rw [h]; exact ⟨rfl, rfl, rfl, rfl, rfl, rfl, rfl, rfl, rfl, rfl, rfl⟩))), (H21.fix (i := 0) rfl)⟩
     ·skip
      refine QL.nil ?_
      intro w23 g24
      have H25 := H5.grow g24
      have z26 := g24.size
      refine thn.n (CW.condF rfl ?_)
      refine CW.skip (inB.n (thn.n (CW.region ?_)))
      refine RL.go rfl rfl rfl (Ex.mv (v := (.int .i64 (i : Int))) rfl) ?_
      refine RL.go rfl rfl rfl (Ex.add (r := (i : Int) + 1) rfl rfl (w64 (by omega) (by omega))) ?_
      refine RL.go rfl rfl rfl (Ex.as (v := (.int .i64 ((i : Int) + 1))) rfl) ?_
      refine RL.nil (thn.n ?_)
      refine ⟨(by repeat (first | exact Out.mix _ _ | exact Out.refl _ _ | refine Out.up ?_ rfl _)), _, ?_, i + 1, rfl, rfl, H25, by omega, take_same htk he9 he14 (ent_eq (Decidable.not_not.1 h18))⟩
      omega
    ·skip
     refine RL.nil (thn.n (CW.condF rfl (CW.exit (thn.x (thn.x (inB.hit (thn.n (CW.seq (CW.region ?_)))))))))
     refine RL.go rfl rfl rfl (Ex.as (v := (.bool true)) rfl) ?_
     refine RL.nil (thn.n (CW.ret ?_))
     refine finQ.r (v := (.bool true)) (res1 rfl rfl) ?_
     exact ⟨ret_bool (by symm; rw [decide_eq_true_eq]; rw [← List.take_of_length_le (i := i) (l := l) (by omega), htk, List.take_of_length_le (by omega)]), (H5.fix (i := 0) rfl)⟩
set_option maxHeartbeats 1000000 in
set_option maxRecDepth 20000 in
theorem same17_ (w : World) (B : Nat) (x y : Vote) (Ax Ay : Option Addr) (nx cx ny cy : Nat) (hrx : Rd w B 11 Ax (ents x.ents)) (hB : B ≤ w.heap.size) (hnx : nx = x.ents.length) (hry : Rd w B 11 Ay (ents y.ents)) (hny : ny = y.ents.length) (hmx : nx ≤ 1099511627776) : Ret Tryz.prog 47 [(.agg ([(.int .i64 x.node), (.int .i64 x.normal), (.int .i64 x.base), (.int .i64 x.number), (.int .i64 x.commit), (.slice Ax nx cx)]).toArray), (.agg ([(.int .i64 y.node), (.int .i64 y.normal), (.int .i64 y.base), (.int .i64 y.number), (.int .i64 y.commit), (.slice Ay ny cy)]).toArray)] w (fun v w' => v = .bool (sameV x y) ∧ w.grownBy w' none) := by
  have H0 : Sp [Fix w NoB] w := Sp.start w
  refine Ret.body Tryz.func47 rfl rfl rfl ?_
  refine CW.seq (CW.region ?_)
  refine RL.bx (cs := [(.int .i64 x.node), (.int .i64 x.normal), (.int .i64 x.base), (.int .i64 x.number), (.int .i64 x.commit), (.slice Ax nx cx)]) rfl rfl rfl ?_
  intro w1 b2 hb3 hz4 g5 o6
  have H7 := H0.newB g5 o6 (by omega)
  have z8 := g5.size
  refine RL.bx (cs := [(.int .i64 y.node), (.int .i64 y.normal), (.int .i64 y.base), (.int .i64 y.number), (.int .i64 y.commit), (.slice Ay ny cy)]) rfl rfl rfl ?_
  intro w9 b10 hb11 hz12 g13 o14
  have H15 := H7.newB g13 o14 (by omega)
  have z16 := g13.size
  refine RL.go rfl rfl rfl (Ex.as (v := (.bool false)) rfl) ?_
  refine RL.nil (thn.n (CW.seq (CW.region ?_)))
  refine RL.go rfl rfl rfl (fa67_0 (b := ⟨b2, 0, none⟩) rfl rfl) ?_
  refine RL.go rfl rfl rfl (Ex.ldv rfl (loadC1 lo3 (Ob.cell (v := (.int .i64 x.node)) (H15.ob (i := 1) rfl) rfl))) ?_
  refine RL.go rfl rfl rfl (fa67_0 (b := ⟨b10, 0, none⟩) rfl rfl) ?_
  refine RL.go rfl rfl rfl (Ex.ldv rfl (loadC1 lo3 (Ob.cell (v := (.int .i64 y.node)) (H15.ob (i := 0) rfl) rfl))) ?_
  refine RL.br (p := (x.node : Int) = (y.node : Int)) rfl rfl rfl (fun r hr => Ex.eqD rfl rfl hr) (fun h17 => ?_) (fun h17 => ?_)
  ·skip
   refine RL.go rfl rfl rfl (Ex.mv (v := (.bool true)) rfl) ?_
   refine RL.go rfl rfl rfl (fa67_1 (b := ⟨b2, 1, none⟩) rfl rfl) ?_
   refine RL.go rfl rfl rfl (Ex.ldv rfl (loadC1 lo3 (Ob.cell (v := (.int .i64 x.normal)) (H15.ob (i := 1) rfl) rfl))) ?_
   refine RL.go rfl rfl rfl (fa67_1 (b := ⟨b10, 1, none⟩) rfl rfl) ?_
   refine RL.go rfl rfl rfl (Ex.ldv rfl (loadC1 lo3 (Ob.cell (v := (.int .i64 y.normal)) (H15.ob (i := 0) rfl) rfl))) ?_
   refine RL.br (p := (x.normal : Int) = (y.normal : Int)) rfl rfl rfl (fun r hr => Ex.eqD rfl rfl hr) (fun h18 => ?_) (fun h18 => ?_)
   ·skip
    refine RL.go rfl rfl rfl (Ex.pkT (v := (.bool true)) rfl rfl) ?_
    refine RL.go rfl rfl rfl (Ex.mv (v := (.bool true)) rfl) ?_
    refine RL.go rfl rfl rfl (fa67_2 (b := ⟨b2, 2, none⟩) rfl rfl) ?_
    refine RL.go rfl rfl rfl (Ex.ldv rfl (loadC1 lo3 (Ob.cell (v := (.int .i64 x.base)) (H15.ob (i := 1) rfl) rfl))) ?_
    refine RL.go rfl rfl rfl (fa67_2 (b := ⟨b10, 2, none⟩) rfl rfl) ?_
    refine RL.go rfl rfl rfl (Ex.ldv rfl (loadC1 lo3 (Ob.cell (v := (.int .i64 y.base)) (H15.ob (i := 0) rfl) rfl))) ?_
    refine RL.br (p := (x.base : Int) = (y.base : Int)) rfl rfl rfl (fun r hr => Ex.eqD rfl rfl hr) (fun h19 => ?_) (fun h19 => ?_)
    ·skip
     refine RL.go rfl rfl rfl (Ex.pkT (v := (.bool true)) rfl rfl) ?_
     refine RL.go rfl rfl rfl (Ex.mv (v := (.bool true)) rfl) ?_
     refine RL.go rfl rfl rfl (fa67_3 (b := ⟨b2, 3, none⟩) rfl rfl) ?_
     refine RL.go rfl rfl rfl (Ex.ldv rfl (loadC1 lo3 (Ob.cell (v := (.int .i64 x.number)) (H15.ob (i := 1) rfl) rfl))) ?_
     refine RL.go rfl rfl rfl (fa67_3 (b := ⟨b10, 3, none⟩) rfl rfl) ?_
     refine RL.go rfl rfl rfl (Ex.ldv rfl (loadC1 lo3 (Ob.cell (v := (.int .i64 y.number)) (H15.ob (i := 0) rfl) rfl))) ?_
     refine RL.br (p := (x.number : Int) = (y.number : Int)) rfl rfl rfl (fun r hr => Ex.eqD rfl rfl hr) (fun h20 => ?_) (fun h20 => ?_)
     ·skip
      refine RL.go rfl rfl rfl (Ex.pkT (v := (.bool true)) rfl rfl) ?_
      refine RL.go rfl rfl rfl (Ex.mv (v := (.bool true)) rfl) ?_
      refine RL.go rfl rfl rfl (fa67_4 (b := ⟨b2, 4, none⟩) rfl rfl) ?_
      refine RL.go rfl rfl rfl (Ex.ldv rfl (loadC1 lo3 (Ob.cell (v := (.int .i64 x.commit)) (H15.ob (i := 1) rfl) rfl))) ?_
      refine RL.go rfl rfl rfl (fa67_4 (b := ⟨b10, 4, none⟩) rfl rfl) ?_
      refine RL.go rfl rfl rfl (Ex.ldv rfl (loadC1 lo3 (Ob.cell (v := (.int .i64 y.commit)) (H15.ob (i := 0) rfl) rfl))) ?_
      refine RL.br (p := (x.commit : Int) = (y.commit : Int)) rfl rfl rfl (fun r hr => Ex.eqD rfl rfl hr) (fun h21 => ?_) (fun h21 => ?_)
      ·skip
       refine RL.go rfl rfl rfl (Ex.pkT (v := (.bool true)) rfl rfl) ?_
       refine RL.go rfl rfl rfl (Ex.mv (v := (.bool true)) rfl) ?_
       refine RL.go rfl rfl rfl (fa67_5 (b := ⟨b2, 5, none⟩) rfl rfl) ?_
       refine RL.go rfl rfl rfl (Ex.ldv rfl (loadC1 lo22 (Ob.cell (v := (.slice Ax nx cx)) (H15.ob (i := 1) rfl) rfl))) ?_
       refine RL.go rfl rfl rfl (fa67_5 (b := ⟨b10, 5, none⟩) rfl rfl) ?_
       refine RL.go rfl rfl rfl (Ex.ldv rfl (loadC1 lo22 (Ob.cell (v := (.slice Ay ny cy)) (H15.ob (i := 0) rfl) rfl))) ?_
       refine RL.call Tryz.call31 (entSame_ _ _ x.ents y.ents Ax Ay nx cx ny cy ((hrx.st0 (H15.fix (i := 2) rfl)).more (by omega)) (by first | assumption | omega) ((hry.st0 (H15.fix (i := 2) rfl)).more (by omega)) (by first | assumption | omega) (by omega)) rfl rfl rfl ?_
       rintro _ w22 ⟨rfl, g23⟩
       have H24 := H15.grow g23
       have z25 := g23.size
       rcases hb26 : (decide (x.ents = y.ents)) with _ | _
       ·skip
        refine RL.go rfl rfl rfl (Ex.pkT (v := (.bool false)) rfl rfl) ?_
        refine RL.go rfl rfl rfl (Ex.as (v := (.bool false)) rfl) ?_
        refine RL.nil (thn.n (CW.ret ?_))
        refine finQ.r (v := (.bool false)) (res1 rfl rfl) ?_
        exact ⟨ret_bool (by unfold sameV; first | (simp only [h17, h18, h19, h20, h21, hb26]; rfl) | simp [h17, h18, h19, h20, h21, hb26]), (H24.fix (i := 2) rfl)⟩
       ·skip
        refine RL.go rfl rfl rfl (Ex.pkT (v := (.bool true)) rfl rfl) ?_
        refine RL.go rfl rfl rfl (Ex.as (v := (.bool true)) rfl) ?_
        refine RL.nil (thn.n (CW.ret ?_))
        refine finQ.r (v := (.bool true)) (res1 rfl rfl) ?_
        exact ⟨ret_bool (by unfold sameV; first | (simp only [h17, h18, h19, h20, h21, hb26]; rfl) | simp [h17, h18, h19, h20, h21, hb26]), (H24.fix (i := 2) rfl)⟩
      ·skip
       refine RL.go rfl rfl rfl (Ex.pkT (v := (.bool false)) rfl rfl) ?_
       refine RL.go rfl rfl rfl (Ex.mv (v := (.bool false)) rfl) ?_
       refine RL.out rfl rfl rfl ?_
       refine RL.out rfl rfl rfl ?_
       refine RL.out rfl rfl rfl ?_
       refine RL.out rfl rfl rfl ?_
       refine RL.out rfl rfl rfl ?_
       refine RL.go rfl rfl rfl (Ex.pkF (v := (.bool false)) rfl rfl) ?_
       refine RL.go rfl rfl rfl (Ex.as (v := (.bool false)) rfl) ?_
       refine RL.nil (thn.n (CW.ret ?_))
       refine finQ.r (v := (.bool false)) (res1 rfl rfl) ?_
       exact ⟨ret_bool (by unfold sameV; first | (simp only [h17, h18, h19, h20, h21]; rfl) | simp [h17, h18, h19, h20, h21]), (H15.fix (i := 2) rfl)⟩
     ·skip
      refine RL.go rfl rfl rfl (Ex.pkT (v := (.bool false)) rfl rfl) ?_
      refine RL.go rfl rfl rfl (Ex.mv (v := (.bool false)) rfl) ?_
      refine RL.out rfl rfl rfl ?_
      refine RL.out rfl rfl rfl ?_
      refine RL.out rfl rfl rfl ?_
      refine RL.out rfl rfl rfl ?_
      refine RL.out rfl rfl rfl ?_
      refine RL.go rfl rfl rfl (Ex.pkF (v := (.bool false)) rfl rfl) ?_
      refine RL.go rfl rfl rfl (Ex.mv (v := (.bool false)) rfl) ?_
      refine RL.out rfl rfl rfl ?_
      refine RL.out rfl rfl rfl ?_
      refine RL.out rfl rfl rfl ?_
      refine RL.out rfl rfl rfl ?_
      refine RL.out rfl rfl rfl ?_
      refine RL.go rfl rfl rfl (Ex.pkF (v := (.bool false)) rfl rfl) ?_
      refine RL.go rfl rfl rfl (Ex.as (v := (.bool false)) rfl) ?_
      refine RL.nil (thn.n (CW.ret ?_))
      refine finQ.r (v := (.bool false)) (res1 rfl rfl) ?_
      exact ⟨ret_bool (by unfold sameV; first | (simp only [h17, h18, h19, h20]; rfl) | simp [h17, h18, h19, h20]), (H15.fix (i := 2) rfl)⟩
    ·skip
     refine RL.go rfl rfl rfl (Ex.pkT (v := (.bool false)) rfl rfl) ?_
     refine RL.go rfl rfl rfl (Ex.mv (v := (.bool false)) rfl) ?_
     refine RL.out rfl rfl rfl ?_
     refine RL.out rfl rfl rfl ?_
     refine RL.out rfl rfl rfl ?_
     refine RL.out rfl rfl rfl ?_
     refine RL.out rfl rfl rfl ?_
     refine RL.go rfl rfl rfl (Ex.pkF (v := (.bool false)) rfl rfl) ?_
     refine RL.go rfl rfl rfl (Ex.mv (v := (.bool false)) rfl) ?_
     refine RL.out rfl rfl rfl ?_
     refine RL.out rfl rfl rfl ?_
     refine RL.out rfl rfl rfl ?_
     refine RL.out rfl rfl rfl ?_
     refine RL.out rfl rfl rfl ?_
     refine RL.go rfl rfl rfl (Ex.pkF (v := (.bool false)) rfl rfl) ?_
     refine RL.go rfl rfl rfl (Ex.mv (v := (.bool false)) rfl) ?_
     refine RL.out rfl rfl rfl ?_
     refine RL.out rfl rfl rfl ?_
     refine RL.out rfl rfl rfl ?_
     refine RL.out rfl rfl rfl ?_
     refine RL.out rfl rfl rfl ?_
     refine RL.go rfl rfl rfl (Ex.pkF (v := (.bool false)) rfl rfl) ?_
     refine RL.go rfl rfl rfl (Ex.as (v := (.bool false)) rfl) ?_
     refine RL.nil (thn.n (CW.ret ?_))
     refine finQ.r (v := (.bool false)) (res1 rfl rfl) ?_
     exact ⟨ret_bool (by unfold sameV; first | (simp only [h17, h18, h19]; rfl) | simp [h17, h18, h19]), (H15.fix (i := 2) rfl)⟩
   ·skip
    refine RL.go rfl rfl rfl (Ex.pkT (v := (.bool false)) rfl rfl) ?_
    refine RL.go rfl rfl rfl (Ex.mv (v := (.bool false)) rfl) ?_
    refine RL.out rfl rfl rfl ?_
    refine RL.out rfl rfl rfl ?_
    refine RL.out rfl rfl rfl ?_
    refine RL.out rfl rfl rfl ?_
    refine RL.out rfl rfl rfl ?_
    refine RL.go rfl rfl rfl (Ex.pkF (v := (.bool false)) rfl rfl) ?_
    refine RL.go rfl rfl rfl (Ex.mv (v := (.bool false)) rfl) ?_
    refine RL.out rfl rfl rfl ?_
    refine RL.out rfl rfl rfl ?_
    refine RL.out rfl rfl rfl ?_
    refine RL.out rfl rfl rfl ?_
    refine RL.out rfl rfl rfl ?_
    refine RL.go rfl rfl rfl (Ex.pkF (v := (.bool false)) rfl rfl) ?_
    refine RL.go rfl rfl rfl (Ex.mv (v := (.bool false)) rfl) ?_
    refine RL.out rfl rfl rfl ?_
    refine RL.out rfl rfl rfl ?_
    refine RL.out rfl rfl rfl ?_
    refine RL.out rfl rfl rfl ?_
    refine RL.out rfl rfl rfl ?_
    refine RL.go rfl rfl rfl (Ex.pkF (v := (.bool false)) rfl rfl) ?_
    refine RL.go rfl rfl rfl (Ex.mv (v := (.bool false)) rfl) ?_
    refine RL.out rfl rfl rfl ?_
    refine RL.out rfl rfl rfl ?_
    refine RL.out rfl rfl rfl ?_
    refine RL.out rfl rfl rfl ?_
    refine RL.out rfl rfl rfl ?_
    refine RL.go rfl rfl rfl (Ex.pkF (v := (.bool false)) rfl rfl) ?_
    refine RL.go rfl rfl rfl (Ex.as (v := (.bool false)) rfl) ?_
    refine RL.nil (thn.n (CW.ret ?_))
    refine finQ.r (v := (.bool false)) (res1 rfl rfl) ?_
    exact ⟨ret_bool (by unfold sameV; first | (simp only [h17, h18]; rfl) | simp [h17, h18]), (H15.fix (i := 2) rfl)⟩
  ·skip
   refine RL.go rfl rfl rfl (Ex.mv (v := (.bool false)) rfl) ?_
   refine RL.out rfl rfl rfl ?_
   refine RL.out rfl rfl rfl ?_
   refine RL.out rfl rfl rfl ?_
   refine RL.out rfl rfl rfl ?_
   refine RL.out rfl rfl rfl ?_
   refine RL.go rfl rfl rfl (Ex.pkF (v := (.bool false)) rfl rfl) ?_
   refine RL.go rfl rfl rfl (Ex.mv (v := (.bool false)) rfl) ?_
   refine RL.out rfl rfl rfl ?_
   refine RL.out rfl rfl rfl ?_
   refine RL.out rfl rfl rfl ?_
   refine RL.out rfl rfl rfl ?_
   refine RL.out rfl rfl rfl ?_
   refine RL.go rfl rfl rfl (Ex.pkF (v := (.bool false)) rfl rfl) ?_
   refine RL.go rfl rfl rfl (Ex.mv (v := (.bool false)) rfl) ?_
   refine RL.out rfl rfl rfl ?_
   refine RL.out rfl rfl rfl ?_
   refine RL.out rfl rfl rfl ?_
   refine RL.out rfl rfl rfl ?_
   refine RL.out rfl rfl rfl ?_
   refine RL.go rfl rfl rfl (Ex.pkF (v := (.bool false)) rfl rfl) ?_
   refine RL.go rfl rfl rfl (Ex.mv (v := (.bool false)) rfl) ?_
   refine RL.out rfl rfl rfl ?_
   refine RL.out rfl rfl rfl ?_
   refine RL.out rfl rfl rfl ?_
   refine RL.out rfl rfl rfl ?_
   refine RL.out rfl rfl rfl ?_
   refine RL.go rfl rfl rfl (Ex.pkF (v := (.bool false)) rfl rfl) ?_
   refine RL.go rfl rfl rfl (Ex.mv (v := (.bool false)) rfl) ?_
   refine RL.out rfl rfl rfl ?_
   refine RL.out rfl rfl rfl ?_
   refine RL.out rfl rfl rfl ?_
   refine RL.out rfl rfl rfl ?_
   refine RL.out rfl rfl rfl ?_
   refine RL.go rfl rfl rfl (Ex.pkF (v := (.bool false)) rfl rfl) ?_
   refine RL.go rfl rfl rfl (Ex.as (v := (.bool false)) rfl) ?_
   refine RL.nil (thn.n (CW.ret ?_))
   refine finQ.r (v := (.bool false)) (res1 rfl rfl) ?_
   exact ⟨ret_bool (by unfold sameV; first | (simp only [h17]; rfl) | simp [h17]), (H15.fix (i := 2) rfl)⟩
set_option maxHeartbeats 1000000 in
set_option maxRecDepth 20000 in
theorem all17_ (w : World) (B : Nat) (l m : List RVote) (A A2 : Option Addr) (n c n2 c2 : Nat) (hr : Rd w B 6 A (rvotes l)) (hv : VtR w B l) (hB : B ≤ w.heap.size) (hn : n = l.length) (hr2 : Rd w B 6 A2 (rvotes m)) (hv2 : VtR w B m) (hn2 : n2 = m.length) (hm : n ≤ 1000000) (hvb : ∀ r ∈ l, r.v.ents.length ≤ 1000000) : Ret Tryz.prog 52 [(.slice A n c), (.slice A2 n2 c2)] w (fun v w' => v = .bool (decide (l.map RVote.v = m.map RVote.v)) ∧ w.grownBy w' none) := by
  have H0 : Sp [Fix w NoB] w := Sp.start w
  refine Ret.body Tryz.func52 rfl rfl rfl ?_
  refine CW.seq (CW.region ?_)
  refine RL.go rfl rfl rfl (Ex.as (v := (.bool false)) rfl) ?_
  refine RL.nil (thn.n (CW.seq (CW.seq (CW.region ?_))))
  refine RL.go rfl rfl rfl (Ex.mv (v := (.slice A n c)) rfl) ?_
  refine RL.go rfl rfl rfl (Ex.len Tryz.underlying65 rfl) ?_
  refine RL.go rfl rfl rfl (Ex.mv (v := (.slice A2 n2 c2)) rfl) ?_
  refine RL.go rfl rfl rfl (Ex.len Tryz.underlying65 rfl) ?_
  refine RL.br (p := ((n : Nat) : Int) ≠ ((n2 : Nat) : Int)) rfl rfl rfl (fun r hr => Ex.neD rfl rfl hr) (fun h1 => ?_) (fun h1 => ?_)
  ·skip
   refine RL.nil (thn.n (CW.condT rfl (CW.seq (CW.region ?_))))
   refine RL.go rfl rfl rfl (Ex.as (v := (.bool false)) rfl) ?_
   refine RL.nil (thn.n (CW.ret (thn.r ?_)))
   refine finQ.r (v := (.bool false)) (res1 rfl rfl) ?_
   exact ⟨ret_bool (by symm; rw [decide_eq_false_iff_not]; intro h; have h2 := congrArg List.length h; rw [List.length_map, List.length_map] at h2; omega), (H0.fix (i := 0) rfl)⟩
  ·skip
   refine RL.nil (thn.n (CW.condF rfl (CW.skip (thn.n (CW.seq (CW.seq (CW.region ?_)))))))
   refine RL.go rfl rfl rfl (Ex.as (v := (.int .i64 0)) rfl) ?_
   refine RL.nil (thn.n (CW.block ?_))
   refine CW.loop (fun t => (Nat.ble 4 t && Nat.ble t 5) || (Nat.ble 11 t && Nat.ble t 26)) (fun nL ρ wl => ∃ (i : Nat), ρ 5 = (.int .i64 (i : Int)) ∧ nL = n - i ∧ Sp [Fix w NoB] wl ∧ i ≤ n ∧ (l.map RVote.v).take i = (m.map RVote.v).take i) (n) ?aa0 ?bb0
   case aa0 =>
    exact ⟨0, rfl, rfl, H0, Nat.zero_le _, rfl⟩
   case bb0 =>
    rintro n3 ρ0 w2 ho4 ⟨i, hs0_5, hn0, H5, hi, htk⟩
    obtain ⟨j0, rfl⟩ := ho4.shape1 hs0_5
    clear ho4 hs0_5
    subst hn0
    have z6 := (H5.fix (i := 0) rfl).size
    refine CW.seq (CW.seq ?_)
    refine CW.region ?_
    refine RL.go rfl rfl rfl (Ex.mv (v := (.int .i64 (i : Int))) rfl) ?_
    refine RL.go rfl rfl rfl (Ex.mv (v := (.slice A n c)) rfl) ?_
    refine RL.go rfl rfl rfl (Ex.len Tryz.underlying65 rfl) ?_
    refine RL.br (p := ((i : Int) : Int) < ((n : Nat) : Int)) rfl rfl rfl (fun r hr => Ex.lt rfl rfl hr) (fun h7 => ?_) (fun h7 => ?_)
    ·skip
     refine RL.nil (thn.n (CW.condT rfl (CW.skip (thn.n (CW.seq (CW.block (CW.seq ?_)))))))
     refine CW.held (fun wq => Sp [Fix w NoB] wq) Tryz.mixed rfl ?_
     intro w8 g9
     have H10 := H5.grow g9
     have z11 := g9.size
     refine RA.tk 0 0 1 rfl rfl rfl (by kernel_rfl) (fun wq hq => Ex.mv (v := (.slice A n c)) rfl) H10 ?_
     refine RA.tk 1 1 3 rfl rfl rfl (by kernel_rfl) (fun wq hq => Ex.mv (v := (.int .i64 (i : Int))) rfl) H10 ?_
     refine RA.tk 4 3 19 rfl rfl rfl (by kernel_rfl) (fun wq hq => Ex.mv (v := (.slice A2 n2 c2)) rfl) H10 ?_
     refine RA.tk 5 19 51 rfl rfl rfl (by kernel_rfl) (fun wq hq => Ex.mv (v := (.int .i64 (i : Int))) rfl) H10 ?_
     obtain ⟨e12, he13⟩ : ∃ e, (l)[i]? = some e := ⟨_, List.getElem?_eq_getElem (by omega)⟩
     obtain ⟨hre14, hne15, hce16⟩ := (hv).get he13
     have hvb17 := hvb e12 (List.mem_of_getElem? he13)
     obtain ⟨ad18, hA19⟩ := Rd.sm (hr.st0 (H10.fix (i := 0) rfl)) (rvotes_get he13)
     have hl20 := Eng.lt_len (rvotes_get he13)
     refine RA.tk 2 51 55 rfl rfl rfl (by kernel_rfl) (fun wq hq => Ex.ix (b := (ad18.add (i * 6))) (i := i) Tryz.underlying65 Tryz.sizeOf67 (by rw [← hA19]; rfl) rfl (by omega) (by omega) rfl) H10 ?_
     refine RA.tk 3 55 63 rfl rfl rfl (by kernel_rfl) (fun wq hq => Ex.ldv rfl (loadCN (cs := e12.cells) wh67 (Rd.cl (hr.st0 (hq.fix (i := 0) rfl)) hA19 (rvotes_get he13)))) H10 ?_
     obtain ⟨e21, he22⟩ : ∃ e, (m)[i]? = some e := ⟨_, List.getElem?_eq_getElem (by omega)⟩
     obtain ⟨hre23, hne24, hce25⟩ := (hv2).get he22
     obtain ⟨ad26, hA27⟩ := Rd.sm (hr2.st0 (H10.fix (i := 0) rfl)) (rvotes_get he22)
     have hl28 := Eng.lt_len (rvotes_get he22)
     refine RA.tk 6 63 127 rfl rfl rfl (by kernel_rfl) (fun wq hq => Ex.ix (b := (ad26.add (i * 6))) (i := i) Tryz.underlying65 Tryz.sizeOf67 (by rw [← hA27]; rfl) rfl (by omega) (by omega) rfl) H10 ?_
     refine RA.tk 7 127 255 rfl rfl rfl (by kernel_rfl) (fun wq hq => Ex.ldv rfl (loadCN (cs := e21.cells) wh67 (Rd.cl (hr2.st0 (hq.fix (i := 0) rfl)) hA27 (rvotes_get he22)))) H10 ?_
     refine RA.one (i := 8) (by kernel_rfl) ?_
     refine ⟨_, 511, rfl, by kernel_rfl, ?_⟩
     refine RL.call Tryz.call47 (same17_ _ w8.heap.size e12.v e21.v e12.s.a e21.s.a e12.s.n e12.s.c e21.s.n e21.s.c ((hre14.st0 (H10.fix (i := 0) rfl)).more (by omega)) (Nat.le_refl _) (by first | assumption | omega) ((hre23.st0 (H10.fix (i := 0) rfl)).more (by omega)) (by first | assumption | omega) (by omega)) rfl rfl rfl ?_
     rintro _ w29 ⟨rfl, g30⟩
     have H31 := H10.grow g30
     have z32 := g30.size
     rcases hb33 : (sameV e12.v e21.v) with _ | _
     ·skip
      refine RL.nil ?_
      refine ⟨H31, ?_⟩
      refine RA.tk 9 511 1023 rfl rfl rfl (by kernel_rfl) (fun wq hq => Ex.not (b := false) rfl) H31 ?_
      refine RA.done (by kernel_rfl) ?_
      refine thn.n (CW.condT rfl ?_)
      refine CW.seq (CW.region ?_)
      refine RL.go rfl rfl rfl (Ex.as (v := (.bool false)) rfl) ?_
      refine RL.nil (thn.n (CW.ret (inB.r (thn.r (thn.r (inB.r (thn.r ?_)))))))
      refine finQ.r (v := (.bool false)) (res1 rfl rfl) ?_
      exact ⟨ret_bool (by symm; rw [decide_eq_false_iff_not]; exact ne_at (by rw [List.getElem?_map, he13]; rfl) (by rw [List.getElem?_map, he22]; rfl) (fun h => by rw [sameV_eq.2 h] at hb33; cases hb33)), (H31.fix (i := 0) rfl)⟩
     ·skip
      refine RL.nil ?_
      refine ⟨H31, ?_⟩
      refine RA.tk 9 511 1023 rfl rfl rfl (by kernel_rfl) (fun wq hq => Ex.not (b := true) rfl) H31 ?_
      refine RA.done (by kernel_rfl) ?_
      refine thn.n (CW.condF rfl ?_)
      refine CW.skip (inB.n (thn.n (CW.region ?_)))
      refine RL.go rfl rfl rfl (Ex.mv (v := (.int .i64 (i : Int))) rfl) ?_
      refine RL.go rfl rfl rfl (Ex.add (r := (i : Int) + 1) rfl rfl (w64 (by omega) (by omega))) ?_
      refine RL.go rfl rfl rfl (Ex.as (v := (.int .i64 ((i : Int) + 1))) rfl) ?_
      refine RL.nil (thn.n ?_)
      refine ⟨(by repeat (first | exact Out.mix _ _ | exact Out.refl _ _ | refine Out.up ?_ rfl _)), _, ?_, i + 1, rfl, rfl, H31, by omega, take_same htk (by rw [List.getElem?_map, he13]; rfl) (by rw [List.getElem?_map, he22]; rfl) (sameV_eq.1 hb33)⟩
      omega
    ·skip
     refine RL.nil (thn.n (CW.condF rfl (CW.exit (thn.x (thn.x (inB.hit (thn.n (CW.seq (CW.region ?_)))))))))
     refine RL.go rfl rfl rfl (Ex.as (v := (.bool true)) rfl) ?_
     refine RL.nil (thn.n (CW.ret ?_))
     refine finQ.r (v := (.bool true)) (res1 rfl rfl) ?_
     exact ⟨ret_bool (by symm; rw [decide_eq_true_eq]; rw [← List.take_of_length_le (i := i) (l := l.map RVote.v) (by rw [List.length_map]; omega), htk, List.take_of_length_le (by rw [List.length_map]; omega)]), (H5.fix (i := 0) rfl)⟩
end Go.Proofs.YtfokljnhllflbaaGreat
namespace Go.Proofs.YtfokljnhllflbaaGreat
open Go Go.Eng Go.RowKit
set_option maxHeartbeats 1000000 in
set_option maxRecDepth 20000 in
theorem big17_ (w : World) (B : Nat) (l : List RVote) (A2 : Option Addr) (nv c2 : Nat) (hr2 : Rd w B 6 A2 (rvotes l)) (hv : VtR w B l) (hnv : nv = l.length) (k : Kept) (A : Option Addr) (n c : Nat) (hr : Rd w B 11 A (ents k.ents)) (hn : n = k.ents.length) (hB : B ≤ w.heap.size) : Ret Tryz.prog 44 [(.slice A2 nv c2), (.agg ([(.int .i64 k.view), (.int .i64 k.normal), (.int .i64 k.base), (.string (tx k.image)), (.slice A n c)]).toArray)] w (fun v w' => (v = .bool true ∧ w.grownBy w' none) ∨ (v = .bool false ∧ w.grownBy w' none ∧ l.length ≤ 50 ∧ bigK k (⟨0, 0, 0, 0, [], (⟨0, 0, 0, 0, ⟨0, 0, 0, 0, 0, 0, 0⟩⟩ : Entry), []⟩ : Rec) = false ∧ ∀ r ∈ l, r.v.ents.length ≤ 200)) := by
  have H0 : Sp [Fix w NoB] w := Sp.start w
  refine Ret.body Tryz.func44 rfl rfl rfl ?_
  refine CW.seq (CW.region ?_)
  refine RL.bx (cs := [(.int .i64 k.view), (.int .i64 k.normal), (.int .i64 k.base), (.string (tx k.image)), (.slice A n c)]) rfl rfl rfl ?_
  intro w1 b2 hb3 hz4 g5 o6
  have H7 := H0.newB g5 o6 (by omega)
  have z8 := g5.size
  refine RL.go rfl rfl rfl (Ex.as (v := (.bool false)) rfl) ?_
  refine RL.nil (thn.n (CW.seq (CW.seq (CW.region ?_))))
  refine RL.go rfl rfl rfl (Ex.mv (v := (.slice A2 nv c2)) rfl) ?_
  refine RL.go rfl rfl rfl (Ex.len Tryz.underlying65 rfl) ?_
  refine RL.br (p := (50 : Int) < ((nv : Nat) : Int)) rfl rfl rfl (fun r hr => Ex.gt rfl rfl hr) (fun h9 => ?_) (fun h9 => ?_)
  ·skip
   refine RL.go rfl rfl rfl (Ex.mv (v := (.bool true)) rfl) ?_
   refine RL.out rfl rfl rfl ?_
   refine RL.out rfl rfl rfl ?_
   refine RL.out rfl rfl rfl ?_
   refine RL.go rfl rfl rfl (Ex.pkT (v := (.bool true)) rfl rfl) ?_
   refine RL.nil (thn.n (CW.condT rfl (CW.seq (CW.region ?_))))
   refine RL.go rfl rfl rfl (Ex.as (v := (.bool true)) rfl) ?_
   refine RL.nil (thn.n (CW.ret (thn.r ?_)))
   refine finQ.r (v := (.bool true)) (res1 rfl rfl) ?_
   exact .inl ⟨rfl, (H7.fix (i := 1) rfl)⟩
  ·skip
   refine RL.go rfl rfl rfl (Ex.mv (v := (.bool false)) rfl) ?_
   refine RL.go rfl rfl rfl (Ex.ldv rfl (loadCN (cs := [(.int .i64 k.view), (.int .i64 k.normal), (.int .i64 k.base), (.string (tx k.image)), (.slice A n c)]) wh24 (H7.ob (i := 0) rfl).cl)) ?_
   refine RL.go rfl rfl rfl (Ex.bd (cs := [(.int .i64 0), (.int .i64 0), (.int .i64 0), (.int .i64 0), (.string (⟨#[]⟩)), (.int .i64 0), (.int .i64 0), (.int .i64 0), (.int .i64 0), (.int .i64 0), (.int .i64 0), (.int .i64 0), (.int .i64 0), (.int .i64 0), (.int .i64 0), (.int .i64 0), (.slice none 0 0)]) bd33 rfl) ?_
   refine RL.call Tryz.call23 (big15 _ k A n c (by first | assumption | rfl | omega) (⟨0, 0, 0, 0, [], (⟨0, 0, 0, 0, ⟨0, 0, 0, 0, 0, 0, 0⟩⟩ : Entry), []⟩ : Rec) none 0 0 (by first | assumption | rfl | omega)) rfl rfl rfl ?_
   rintro _ w10 ⟨rfl, g11⟩
   have H12 := H7.grow g11
   have z13 := g11.size
   rcases hb14 : (bigK k (⟨0, 0, 0, 0, [], (⟨0, 0, 0, 0, ⟨0, 0, 0, 0, 0, 0, 0⟩⟩ : Entry), []⟩ : Rec)) with _ | _
   ·obtain ⟨hbg1, hbg2, hbg3, hbg4⟩ := bigK_f hb14
    refine RL.go rfl rfl rfl (Ex.pkF (v := (.bool false)) rfl rfl) ?_
    refine RL.nil (thn.n (CW.condF rfl (CW.skip (thn.n (CW.seq (CW.seq (CW.region ?_)))))))
    refine RL.go rfl rfl rfl (Ex.as (v := (.int .i64 0)) rfl) ?_
    refine RL.nil (thn.n (CW.block ?_))
    refine CW.loop (fun t => (Nat.ble 4 t && Nat.ble t 5) || (Nat.ble 14 t && Nat.ble t 26)) (fun nL ρ wl => ∃ (i : Nat), ρ 5 = (.int .i64 (i : Int)) ∧ nL = nv - i ∧ Sp [Fix w NoB] wl ∧ i ≤ nv ∧ ∀ (j : Nat) (r : RVote), j < i → l[j]? = some r → r.v.ents.length ≤ 200) (nv) ?aa0 ?bb0
    case aa0 =>
     exact ⟨0, rfl, rfl, (H12.sel [1] (by decide) rfl), Nat.zero_le _, fun j r h => absurd h (Nat.not_lt_zero _)⟩
    case bb0 =>
     rintro n16 ρ0 w15 ho17 ⟨i, hs0_5, hn0, H18, hi, hall⟩
     obtain ⟨j0, rfl⟩ := ho17.shape1 hs0_5
     clear ho17 hs0_5
     subst hn0
     have z19 := (H18.fix (i := 0) rfl).size
     refine CW.seq (CW.seq ?_)
     refine CW.region ?_
     refine RL.go rfl rfl rfl (Ex.mv (v := (.int .i64 (i : Int))) rfl) ?_
     refine RL.go rfl rfl rfl (Ex.mv (v := (.slice A2 nv c2)) rfl) ?_
     refine RL.go rfl rfl rfl (Ex.len Tryz.underlying65 rfl) ?_
     refine RL.br (p := ((i : Int) : Int) < ((nv : Nat) : Int)) rfl rfl rfl (fun r hr => Ex.lt rfl rfl hr) (fun h20 => ?_) (fun h20 => ?_)
     ·skip
      refine RL.nil (thn.n (CW.condT rfl (CW.skip (thn.n (CW.seq (CW.block (CW.seq (CW.region ?_))))))))
      refine RL.go rfl rfl rfl (Ex.mv (v := (.slice A2 nv c2)) rfl) ?_
      refine RL.go rfl rfl rfl (Ex.mv (v := (.int .i64 (i : Int))) rfl) ?_
      obtain ⟨e21, he22⟩ : ∃ e, (l)[i]? = some e := ⟨_, List.getElem?_eq_getElem (by omega)⟩
      obtain ⟨hre23, hne24, hce25⟩ := (hv).get he22
      obtain ⟨ad26, hA27⟩ := Rd.sm (hr2.st0 (H18.fix (i := 0) rfl)) (rvotes_get he22)
      have hl28 := Eng.lt_len (rvotes_get he22)
      refine RL.go rfl rfl rfl (Ex.ix (b := (ad26.add (i * 6))) (i := i) Tryz.underlying65 Tryz.sizeOf67 (by rw [← hA27]; rfl) rfl (by omega) (by omega) rfl) ?_
      refine RL.go rfl rfl rfl (fa67_5 (b := (((ad26.add (i * 6))).add 5)) rfl rfl) ?_
      refine RL.go rfl rfl rfl (Ex.ldv rfl (loadC1 lo22 (Cl.at_ (v := (.slice e21.s.a e21.s.n e21.s.c)) (Rd.cl (hr2.st0 (H18.fix (i := 0) rfl)) hA27 (rvotes_get he22)) (i := 5) rfl))) ?_
      refine RL.go rfl rfl rfl (Ex.len Tryz.underlying22 rfl) ?_
      refine RL.br (p := (200 : Int) < ((e21.s.n : Nat) : Int)) rfl rfl rfl (fun r hr => Ex.gt rfl rfl hr) (fun h29 => ?_) (fun h29 => ?_)
      ·skip
       refine RL.nil (thn.n (CW.condT rfl (CW.seq (CW.region ?_))))
       refine RL.go rfl rfl rfl (Ex.as (v := (.bool true)) rfl) ?_
       refine RL.nil (thn.n (CW.ret (inB.r (thn.r (thn.r (inB.r (thn.r ?_)))))))
       refine finQ.r (v := (.bool true)) (res1 rfl rfl) ?_
       exact .inl ⟨rfl, (H18.fix (i := 0) rfl)⟩
      ·skip
       refine RL.nil (thn.n (CW.condF rfl (CW.skip (inB.n (thn.n (CW.region ?_))))))
       refine RL.go rfl rfl rfl (Ex.mv (v := (.int .i64 (i : Int))) rfl) ?_
       refine RL.go rfl rfl rfl (Ex.add (r := (i : Int) + 1) rfl rfl (w64 (by omega) (by omega))) ?_
       refine RL.go rfl rfl rfl (Ex.as (v := (.int .i64 ((i : Int) + 1))) rfl) ?_
       refine RL.nil (thn.n ?_)
       refine ⟨(by repeat (first | exact Out.mix _ _ | exact Out.refl _ _ | refine Out.up ?_ rfl _)), _, ?_, i + 1, rfl, rfl, H18, by omega, fun j r hj hr => by
  rcases Nat.lt_succ_iff_lt_or_eq.1 hj with h | h
  · exact hall j r h hr
  · subst h; rw [he22] at hr; injection hr with hr; subst hr; omega⟩
       omega
     ·skip
      refine RL.nil (thn.n (CW.condF rfl (CW.exit (thn.x (thn.x (inB.hit (thn.n (CW.seq (CW.region ?_)))))))))
      refine RL.go rfl rfl rfl (Ex.as (v := (.bool false)) rfl) ?_
      refine RL.nil (thn.n (CW.ret ?_))
      refine finQ.r (v := (.bool false)) (res1 rfl rfl) ?_
      exact .inr ⟨rfl, (H18.fix (i := 0) rfl), by omega, by first | assumption | simp | simpa using hb14, fun r hr => by obtain ⟨j, hj⟩ := List.mem_iff_getElem?.1 hr; exact hall j r (by have := lt_len hj; omega) hj⟩
   ·skip
    refine RL.go rfl rfl rfl (Ex.pkF (v := (.bool true)) rfl rfl) ?_
    refine RL.nil (thn.n (CW.condT rfl (CW.seq (CW.region ?_))))
    refine RL.go rfl rfl rfl (Ex.as (v := (.bool true)) rfl) ?_
    refine RL.nil (thn.n (CW.ret (thn.r ?_)))
    refine finQ.r (v := (.bool true)) (res1 rfl rfl) ?_
    exact .inl ⟨rfl, (H12.fix (i := 1) rfl)⟩
set_option maxHeartbeats 1000000 in
set_option maxRecDepth 20000 in
theorem row17_2 (w : World)  : Ret Tryz.prog 93 [(.int .i64 2)] w (fun v w' => ∃ (A' : Option Addr) (c' : Nat), v = .slice A' 2 c' ∧ Sp ([RowA 31 11 A' 2 c' (ents tl2)] ++ [Fix w NoB]) w') := by
  have H0 : Sp [Fix w NoB] w := Sp.start w
  refine Ret.body Tryz.func93 rfl rfl rfl ?_
  refine CW.seq (CW.region ?_)
  refine RL.go rfl rfl rfl (Ex.as (v := (.slice none 0 0)) rfl) ?_
  refine RL.nil (thn.n (CW.seq (CW.region ?_)))
  refine RL.go rfl rfl rfl (Ex.as (v := (.slice none 0 0)) rfl) ?_
  refine RL.nil (thn.n (CW.seq (CW.seq (CW.region ?_))))
  refine RL.go rfl rfl rfl (Ex.as (v := (.int .i64 1)) rfl) ?_
  refine RL.nil (thn.n (CW.block ?_))
  refine CW.unroll ?_
  refine CL.step ?_
  refine CW.seq (CW.seq ?_)
  refine CW.region ?_
  refine RL.go rfl rfl rfl (Ex.mv (v := (.int .i64 1)) rfl) ?_
  refine RL.go rfl rfl rfl (Ex.mv (v := (.int .i64 2)) rfl) ?_
  refine RL.go rfl rfl rfl (Ex.le (r := true) rfl rfl (by decide)) ?_
  refine RL.nil (thn.n (CW.condT rfl (CW.skip (thn.n (CW.seq (CW.block (CW.region ?_)))))))
  refine RL.go rfl rfl rfl (Ex.mv (v := (.slice none 0 0)) rfl) ?_
  refine RL.go rfl rfl rfl (Ex.mv (v := (.int .i64 1)) rfl) ?_
  refine RL.go rfl rfl rfl (Ex.bd (cs := [(.int .i64 1), (.int .i64 0), (.int .i64 0), (.int .i64 0), (.int .i64 0), (.int .i64 0), (.int .i64 0), (.int .i64 0), (.int .i64 0), (.int .i64 0), (.int .i64 0)]) bd31 rfl) ?_
  refine RL.bs (cs := [(.int .i64 1), (.int .i64 0), (.int .i64 0), (.int .i64 0), (.int .i64 0), (.int .i64 0), (.int .i64 0), (.int .i64 0), (.int .i64 0), (.int .i64 0), (.int .i64 0)]) Tryz.underlying22 Tryz.sizeOf31 ze22 rfl rfl rfl (by decide) rfl rfl rfl ?_
  intro w1 b2 hb3 hz4 g5 o6
  have H7 := H0.newB g5 o6 (by omega)
  have z8 := g5.size
  have H9 := H7.nil_ 31 11
  refine RL.apW (base := 0) (xss := (ents [])) (yss := (ents ([(⟨1, 0, 0, 0, ⟨0, 0, 0, 0, 0, 0, 0⟩⟩ : Entry)]))) el22 (H9.wr (i := 0) rfl) rfl (Ob.rd1 (H9.ob (i := 1) rfl) rfl) rfl (by simp only [bcs_length, ics_length, rows_length, blks_length, robjs_length, ents_length, List.length_append, List.length_cons, List.length_nil, List.length_take, List.length_drop, List.length_map, enc4, enc8, encN_len, encW_len, recsE_length, rvotes_length]; try omega) (ents_one _) (by omega) (by omega) (by omega) rfl rfl ?_
  intro w10 A11 c12 g13 ow14 nx15
  have H16 : Sp [RowA 31 11 A11 (0 + 1) c12 (ents ([(⟨1, 0, 0, 0, ⟨0, 0, 0, 0, 0, 0, 0⟩⟩ : Entry)])), BlkA b2 31 [(.int .i64 1), (.int .i64 0), (.int .i64 0), (.int .i64 0), (.int .i64 0), (.int .i64 0), (.int .i64 0), (.int .i64 0), (.int .i64 0), (.int .i64 0), (.int .i64 0)], Fix w NoB] w10 := H9.setR (i := 0) rfl g13 ((List.nil_append _) ▸ ow14) nx15 rfl
  have z17 := g13.size
  refine RL.go rfl rfl rfl (Ex.as (v := (.slice A11 (0 + 1) c12)) rfl) ?_
  refine RL.nil (inB.n (thn.n (CW.region ?_)))
  refine RL.go rfl rfl rfl (Ex.mv (v := (.int .i64 1)) rfl) ?_
  refine RL.go rfl rfl rfl (Ex.add (r := 2) rfl rfl rfl) ?_
  refine RL.go rfl rfl rfl (Ex.as (v := (.int .i64 2)) rfl) ?_
  refine RL.nil (thn.n ?_)
  refine CL.step ?_
  refine CW.seq (CW.seq ?_)
  refine CW.region ?_
  refine RL.go rfl rfl rfl (Ex.mv (v := (.int .i64 2)) rfl) ?_
  refine RL.go rfl rfl rfl (Ex.mv (v := (.int .i64 2)) rfl) ?_
  refine RL.go rfl rfl rfl (Ex.le (r := true) rfl rfl (by decide)) ?_
  refine RL.nil (thn.n (CW.condT rfl (CW.skip (thn.n (CW.seq (CW.block (CW.region ?_)))))))
  refine RL.go rfl rfl rfl (Ex.mv (v := (.slice A11 (0 + 1) c12)) rfl) ?_
  refine RL.go rfl rfl rfl (Ex.mv (v := (.int .i64 2)) rfl) ?_
  refine RL.go rfl rfl rfl (Ex.bd (cs := [(.int .i64 2), (.int .i64 0), (.int .i64 0), (.int .i64 0), (.int .i64 0), (.int .i64 0), (.int .i64 0), (.int .i64 0), (.int .i64 0), (.int .i64 0), (.int .i64 0)]) bd31 rfl) ?_
  refine RL.bs (cs := [(.int .i64 2), (.int .i64 0), (.int .i64 0), (.int .i64 0), (.int .i64 0), (.int .i64 0), (.int .i64 0), (.int .i64 0), (.int .i64 0), (.int .i64 0), (.int .i64 0)]) Tryz.underlying22 Tryz.sizeOf31 ze22 rfl rfl rfl (by decide) rfl rfl rfl ?_
  intro w18 b19 hb20 hz21 g22 o23
  have H24 := H16.newB g22 o23 (by omega)
  have z25 := g22.size
  refine RL.apW (base := 0) (xss := (ents ([(⟨1, 0, 0, 0, ⟨0, 0, 0, 0, 0, 0, 0⟩⟩ : Entry)]))) (yss := (ents ([(⟨2, 0, 0, 0, ⟨0, 0, 0, 0, 0, 0, 0⟩⟩ : Entry)]))) el22 (H24.wr (i := 1) rfl) rfl (Ob.rd1 (H24.ob (i := 0) rfl) rfl) rfl (by simp only [bcs_length, ics_length, rows_length, blks_length, robjs_length, ents_length, List.length_append, List.length_cons, List.length_nil, List.length_take, List.length_drop, List.length_map, enc4, enc8, encN_len, encW_len, recsE_length, rvotes_length]; try omega) (ents_one _) (by omega) (by omega) (by omega) rfl rfl ?_
  intro w26 A27 c28 g29 ow30 nx31
  have H32 : Sp [BlkA b19 31 [(.int .i64 2), (.int .i64 0), (.int .i64 0), (.int .i64 0), (.int .i64 0), (.int .i64 0), (.int .i64 0), (.int .i64 0), (.int .i64 0), (.int .i64 0), (.int .i64 0)], RowA 31 11 A27 ((0 + 1) + 1) c28 (ents ([(⟨1, 0, 0, 0, ⟨0, 0, 0, 0, 0, 0, 0⟩⟩ : Entry)] ++ [(⟨2, 0, 0, 0, ⟨0, 0, 0, 0, 0, 0, 0⟩⟩ : Entry)])), BlkA b2 31 [(.int .i64 1), (.int .i64 0), (.int .i64 0), (.int .i64 0), (.int .i64 0), (.int .i64 0), (.int .i64 0), (.int .i64 0), (.int .i64 0), (.int .i64 0), (.int .i64 0)], Fix w NoB] w26 := H24.setR (i := 1) rfl g29 ((ents_app _ _).symm ▸ ow30) nx31 rfl
  have z33 := g29.size
  refine RL.go rfl rfl rfl (Ex.as (v := (.slice A27 ((0 + 1) + 1) c28)) rfl) ?_
  refine RL.nil (inB.n (thn.n (CW.region ?_)))
  refine RL.go rfl rfl rfl (Ex.mv (v := (.int .i64 2)) rfl) ?_
  refine RL.go rfl rfl rfl (Ex.add (r := 3) rfl rfl rfl) ?_
  refine RL.go rfl rfl rfl (Ex.as (v := (.int .i64 3)) rfl) ?_
  refine RL.nil (thn.n ?_)
  refine CL.step ?_
  refine CW.seq (CW.seq ?_)
  refine CW.region ?_
  refine RL.go rfl rfl rfl (Ex.mv (v := (.int .i64 3)) rfl) ?_
  refine RL.go rfl rfl rfl (Ex.mv (v := (.int .i64 2)) rfl) ?_
  refine RL.go rfl rfl rfl (Ex.le (r := false) rfl rfl (by decide)) ?_
  refine RL.nil (thn.n (CW.condF rfl (CW.exit (thn.x (thn.x (inB.hit (thn.n (CW.seq (CW.region ?_)))))))))
  refine RL.go rfl rfl rfl (Ex.mv (v := (.slice A27 ((0 + 1) + 1) c28)) rfl) ?_
  refine RL.go rfl rfl rfl (Ex.as (v := (.slice A27 ((0 + 1) + 1) c28)) rfl) ?_
  refine RL.nil (thn.n (CW.ret ?_))
  refine finQ.r (v := (.slice A27 ((0 + 1) + 1) c28)) (res1 rfl rfl) ?_
  exact ⟨_, _, rfl, (H32.sel [1, 3] (by decide) rfl)⟩
set_option maxHeartbeats 400000 in
set_option maxRecDepth 20000 in
theorem vote17_1 (w : World) (node : Int) : Ret Tryz.prog 120 [(.int .i64 node), (.int .i64 0), (.int .i64 1)] w (fun v w' => ∃ (A' : Option Addr) (c' : Nat), v = .agg #[.int .i64 node, .int .i64 0, .int .i64 0, .int .i64 1, .int .i64 0, .slice A' 1 c'] ∧ Sp ([RowA 31 11 A' 1 c' (ents tl1)] ++ [Fix w NoB]) w') := by
  have H0 : Sp [Fix w NoB] w := Sp.start w
  refine Ret.body Tryz.func120 rfl rfl rfl ?_
  refine CW.seq (CW.region ?_)
  refine RL.al (cs := [(.int .i64 0), (.int .i64 0), (.int .i64 0), (.int .i64 0), (.int .i64 0), (.slice none 0 0)]) Tryz.zeroValue67 rfl rfl rfl ?_
  intro w1 b2 hb3 hz4 g5 o6
  have H7 := H0.newB g5 o6 (by omega)
  have z8 := g5.size
  refine RL.nil (thn.n (CW.seq (CW.region ?_)))
  refine RL.go rfl rfl rfl (Ex.mv (v := (.int .i64 node)) rfl) ?_
  refine RL.go rfl rfl rfl (Ex.mv (v := (.int .i64 0)) rfl) ?_
  refine RL.go rfl rfl rfl (Ex.mv (v := (.int .i64 1)) rfl) ?_
  refine RL.go rfl rfl rfl (Ex.mv (v := (.int .i64 1)) rfl) ?_
  refine RL.call Tryz.call93 (row17_1 _) rfl rfl rfl ?_
  rintro _ w11 ⟨A9, c10, rfl, g12⟩
  have g13 := g12.fix (i := 1) rfl
  have H14 : Sp [RowA 31 11 A9 1 c10 (ents tl1), BlkA b2 67 [(.int .i64 0), (.int .i64 0), (.int .i64 0), (.int .i64 0), (.int .i64 0), (.slice none 0 0)], Fix w NoB] w11 := H7.join (m := [RowA 31 11 A9 1 c10 (ents tl1)]) g12
  have z15 := g13.size
  refine RL.go rfl rfl rfl (Ex.bd (cs := [(.int .i64 node), (.int .i64 0), (.int .i64 0), (.int .i64 1), (.int .i64 0), (.slice A9 1 c10)]) bd67 rfl) ?_
  refine RL.st (vs := [(.int .i64 node), (.int .i64 0), (.int .i64 0), (.int .i64 1), (.int .i64 0), (.slice A9 1 c10)]) (cs' := [(.int .i64 node), (.int .i64 0), (.int .i64 0), (.int .i64 1), (.int .i64 0), (.slice A9 1 c10)]) Tryz.sizeOf67 (H14.ob (i := 1) rfl) rfl rfl rfl rfl rfl rfl ?_
  intro w16 hz17 g18 o19
  have H20 : Sp [RowA 31 11 A9 1 c10 (ents tl1), BlkA b2 67 [(.int .i64 node), (.int .i64 0), (.int .i64 0), (.int .i64 1), (.int .i64 0), (.slice A9 1 c10)], Fix w NoB] w16 := H14.setB (i := 1) rfl g18 o19 rfl
  have z21 := g18.size
  refine RL.nil (thn.n (CW.ret ?_))
  refine finQ.r (v := (.agg ([(.int .i64 node), (.int .i64 0), (.int .i64 0), (.int .i64 1), (.int .i64 0), (.slice A9 1 c10)]).toArray)) (resv1 rfl (Rv.cell rfl (loadCN (cs := [(.int .i64 node), (.int .i64 0), (.int .i64 0), (.int .i64 1), (.int .i64 0), (.slice A9 1 c10)]) wh67 (H20.ob (i := 1) rfl).cl))) ?_
  exact ⟨_, _, rfl, (H20.sel [0, 2] (by decide) rfl)⟩
set_option maxHeartbeats 400000 in
set_option maxRecDepth 20000 in
theorem vote17_2 (w : World) (node : Int) : Ret Tryz.prog 120 [(.int .i64 node), (.int .i64 0), (.int .i64 2)] w (fun v w' => ∃ (A' : Option Addr) (c' : Nat), v = .agg #[.int .i64 node, .int .i64 0, .int .i64 0, .int .i64 2, .int .i64 0, .slice A' 2 c'] ∧ Sp ([RowA 31 11 A' 2 c' (ents tl2)] ++ [Fix w NoB]) w') := by
  have H0 : Sp [Fix w NoB] w := Sp.start w
  refine Ret.body Tryz.func120 rfl rfl rfl ?_
  refine CW.seq (CW.region ?_)
  refine RL.al (cs := [(.int .i64 0), (.int .i64 0), (.int .i64 0), (.int .i64 0), (.int .i64 0), (.slice none 0 0)]) Tryz.zeroValue67 rfl rfl rfl ?_
  intro w1 b2 hb3 hz4 g5 o6
  have H7 := H0.newB g5 o6 (by omega)
  have z8 := g5.size
  refine RL.nil (thn.n (CW.seq (CW.region ?_)))
  refine RL.go rfl rfl rfl (Ex.mv (v := (.int .i64 node)) rfl) ?_
  refine RL.go rfl rfl rfl (Ex.mv (v := (.int .i64 0)) rfl) ?_
  refine RL.go rfl rfl rfl (Ex.mv (v := (.int .i64 2)) rfl) ?_
  refine RL.go rfl rfl rfl (Ex.mv (v := (.int .i64 2)) rfl) ?_
  refine RL.call Tryz.call93 (row17_2 _) rfl rfl rfl ?_
  rintro _ w11 ⟨A9, c10, rfl, g12⟩
  have g13 := g12.fix (i := 1) rfl
  have H14 : Sp [RowA 31 11 A9 2 c10 (ents tl2), BlkA b2 67 [(.int .i64 0), (.int .i64 0), (.int .i64 0), (.int .i64 0), (.int .i64 0), (.slice none 0 0)], Fix w NoB] w11 := H7.join (m := [RowA 31 11 A9 2 c10 (ents tl2)]) g12
  have z15 := g13.size
  refine RL.go rfl rfl rfl (Ex.bd (cs := [(.int .i64 node), (.int .i64 0), (.int .i64 0), (.int .i64 2), (.int .i64 0), (.slice A9 2 c10)]) bd67 rfl) ?_
  refine RL.st (vs := [(.int .i64 node), (.int .i64 0), (.int .i64 0), (.int .i64 2), (.int .i64 0), (.slice A9 2 c10)]) (cs' := [(.int .i64 node), (.int .i64 0), (.int .i64 0), (.int .i64 2), (.int .i64 0), (.slice A9 2 c10)]) Tryz.sizeOf67 (H14.ob (i := 1) rfl) rfl rfl rfl rfl rfl rfl ?_
  intro w16 hz17 g18 o19
  have H20 : Sp [RowA 31 11 A9 2 c10 (ents tl2), BlkA b2 67 [(.int .i64 node), (.int .i64 0), (.int .i64 0), (.int .i64 2), (.int .i64 0), (.slice A9 2 c10)], Fix w NoB] w16 := H14.setB (i := 1) rfl g18 o19 rfl
  have z21 := g18.size
  refine RL.nil (thn.n (CW.ret ?_))
  refine finQ.r (v := (.agg ([(.int .i64 node), (.int .i64 0), (.int .i64 0), (.int .i64 2), (.int .i64 0), (.slice A9 2 c10)]).toArray)) (resv1 rfl (Rv.cell rfl (loadCN (cs := [(.int .i64 node), (.int .i64 0), (.int .i64 0), (.int .i64 2), (.int .i64 0), (.slice A9 2 c10)]) wh67 (H20.ob (i := 1) rfl).cl))) ?_
  exact ⟨_, _, rfl, (H20.sel [0, 2] (by decide) rfl)⟩
set_option maxHeartbeats 400000 in
set_option maxRecDepth 20000 in
theorem vote17_3 (w : World) (node : Int) : Ret Tryz.prog 120 [(.int .i64 node), (.int .i64 0), (.int .i64 3)] w (fun v w' => ∃ (A' : Option Addr) (c' : Nat), v = .agg #[.int .i64 node, .int .i64 0, .int .i64 0, .int .i64 3, .int .i64 0, .slice A' 3 c'] ∧ Sp ([RowA 31 11 A' 3 c' (ents tl3)] ++ [Fix w NoB]) w') := by
  have H0 : Sp [Fix w NoB] w := Sp.start w
  refine Ret.body Tryz.func120 rfl rfl rfl ?_
  refine CW.seq (CW.region ?_)
  refine RL.al (cs := [(.int .i64 0), (.int .i64 0), (.int .i64 0), (.int .i64 0), (.int .i64 0), (.slice none 0 0)]) Tryz.zeroValue67 rfl rfl rfl ?_
  intro w1 b2 hb3 hz4 g5 o6
  have H7 := H0.newB g5 o6 (by omega)
  have z8 := g5.size
  refine RL.nil (thn.n (CW.seq (CW.region ?_)))
  refine RL.go rfl rfl rfl (Ex.mv (v := (.int .i64 node)) rfl) ?_
  refine RL.go rfl rfl rfl (Ex.mv (v := (.int .i64 0)) rfl) ?_
  refine RL.go rfl rfl rfl (Ex.mv (v := (.int .i64 3)) rfl) ?_
  refine RL.go rfl rfl rfl (Ex.mv (v := (.int .i64 3)) rfl) ?_
  refine RL.call Tryz.call93 (row17_3 _) rfl rfl rfl ?_
  rintro _ w11 ⟨A9, c10, rfl, g12⟩
  have g13 := g12.fix (i := 1) rfl
  have H14 : Sp [RowA 31 11 A9 3 c10 (ents tl3), BlkA b2 67 [(.int .i64 0), (.int .i64 0), (.int .i64 0), (.int .i64 0), (.int .i64 0), (.slice none 0 0)], Fix w NoB] w11 := H7.join (m := [RowA 31 11 A9 3 c10 (ents tl3)]) g12
  have z15 := g13.size
  refine RL.go rfl rfl rfl (Ex.bd (cs := [(.int .i64 node), (.int .i64 0), (.int .i64 0), (.int .i64 3), (.int .i64 0), (.slice A9 3 c10)]) bd67 rfl) ?_
  refine RL.st (vs := [(.int .i64 node), (.int .i64 0), (.int .i64 0), (.int .i64 3), (.int .i64 0), (.slice A9 3 c10)]) (cs' := [(.int .i64 node), (.int .i64 0), (.int .i64 0), (.int .i64 3), (.int .i64 0), (.slice A9 3 c10)]) Tryz.sizeOf67 (H14.ob (i := 1) rfl) rfl rfl rfl rfl rfl rfl ?_
  intro w16 hz17 g18 o19
  have H20 : Sp [RowA 31 11 A9 3 c10 (ents tl3), BlkA b2 67 [(.int .i64 node), (.int .i64 0), (.int .i64 0), (.int .i64 3), (.int .i64 0), (.slice A9 3 c10)], Fix w NoB] w16 := H14.setB (i := 1) rfl g18 o19 rfl
  have z21 := g18.size
  refine RL.nil (thn.n (CW.ret ?_))
  refine finQ.r (v := (.agg ([(.int .i64 node), (.int .i64 0), (.int .i64 0), (.int .i64 3), (.int .i64 0), (.slice A9 3 c10)]).toArray)) (resv1 rfl (Rv.cell rfl (loadCN (cs := [(.int .i64 node), (.int .i64 0), (.int .i64 0), (.int .i64 3), (.int .i64 0), (.slice A9 3 c10)]) wh67 (H20.ob (i := 1) rfl).cl))) ?_
  exact ⟨_, _, rfl, (H20.sel [0, 2] (by decide) rfl)⟩
set_option maxHeartbeats 1000000 in
set_option maxRecDepth 20000 in
theorem voteC_ (w : World) (B : Nat) (k : Kept) (A : Option Addr) (n c : Nat) (hr : Rd w B 11 A (ents k.ents)) (hB : B ≤ w.heap.size) (hn : n = k.ents.length) (hm : n ≤ 1099511627776) (hc : n ≤ c) (hi : k.image.length ≤ 140737488351232) (id commit : Int) : Ret Tryz.prog 46 [(.int .i64 id), (.agg ([(.int .i64 k.view), (.int .i64 k.normal), (.int .i64 k.base), (.string (tx k.image)), (.slice A n c)]).toArray), (.int .i64 commit)] w (fun v w' => ∃ (A' : Option Addr) (n' c' : Nat), v = .agg #[(.int .i64 ((voteK id k commit).node)), (.int .i64 ((voteK id k commit).normal)), (.int .i64 ((voteK id k commit).base)), (.int .i64 ((voteK id k commit).number)), (.int .i64 ((voteK id k commit).commit)), (.slice A' n' c')] ∧ Sp ([RowA 31 11 A' n' c' (ents (voteK id k commit).ents)] ++ [Fix w NoB]) w') := by
  have H0 : Sp [Fix w NoB] w := Sp.start w
  refine Ret.body Tryz.func46 rfl rfl rfl ?_
  refine CW.seq (CW.region ?_)
  refine RL.bx (cs := [(.int .i64 k.view), (.int .i64 k.normal), (.int .i64 k.base), (.string (tx k.image)), (.slice A n c)]) rfl rfl rfl ?_
  intro w1 b2 hb3 hz4 g5 o6
  have H7 := H0.newB g5 o6 (by omega)
  have z8 := g5.size
  refine RL.al (cs := [(.int .i64 0), (.int .i64 0), (.int .i64 0), (.int .i64 0), (.int .i64 0), (.slice none 0 0)]) Tryz.zeroValue67 rfl rfl rfl ?_
  intro w9 b10 hb11 hz12 g13 o14
  have H15 := H7.newB g13 o14 (by omega)
  have z16 := g13.size
  refine RL.nil (thn.n (CW.seq (CW.seq (CW.region ?_))))
  refine RL.go rfl rfl rfl (Ex.ldv rfl (loadCN (cs := [(.int .i64 k.view), (.int .i64 k.normal), (.int .i64 k.base), (.string (tx k.image)), (.slice A n c)]) wh24 (H15.ob (i := 1) rfl).cl)) ?_
  refine RL.call Tryz.call57 (opCheck_ _ _ _ k (KeptR.of (k := k) (n := n) (c := c) (hr.st0 (H15.fix (i := 2) rfl)) (by show n = (k.ents).length; (try simp only [List.length_append, List.length_cons, List.length_nil, List.length_take, List.length_drop]); all_goals omega) (by omega) (by omega) (by first | assumption | (show List.length _ ≤ _; first | assumption | decide | omega))) (by omega)) rfl rfl rfl ?_
  rintro _ w17 ⟨rfl, g18⟩
  have H19 := H15.grow g18
  have z20 := g18.size
  refine RL.br (p := ((if keptB k then 0 else 1) : Int) ≠ (0 : Int)) rfl rfl rfl (fun r hr => Ex.neD rfl rfl hr) (fun h21 => ?_) (fun h21 => ?_)
  ·skip
   refine RL.nil (thn.n (CW.condT rfl (CW.seq (CW.region ?_))))
   refine RL.go rfl rfl rfl (Ex.bd (cs := [(.int .i64 0), (.int .i64 0), (.int .i64 0), (.int .i64 0), (.int .i64 0), (.slice none 0 0)]) bd67 rfl) ?_
   refine RL.st (vs := [(.int .i64 0), (.int .i64 0), (.int .i64 0), (.int .i64 0), (.int .i64 0), (.slice none 0 0)]) (cs' := [(.int .i64 0), (.int .i64 0), (.int .i64 0), (.int .i64 0), (.int .i64 0), (.slice none 0 0)]) Tryz.sizeOf67 (H19.ob (i := 0) rfl) rfl rfl rfl rfl rfl rfl ?_
   intro w22 hz23 g24 o25
   have H26 : Sp [BlkA b10 67 [(.int .i64 0), (.int .i64 0), (.int .i64 0), (.int .i64 0), (.int .i64 0), (.slice none 0 0)], BlkA b2 24 [(.int .i64 k.view), (.int .i64 k.normal), (.int .i64 k.base), (.string (tx k.image)), (.slice A n c)], Fix w NoB] w22 := H19.setB (i := 0) rfl g24 o25 rfl
   have z27 := g24.size
   refine RL.nil (thn.n (CW.ret (thn.r ?_)))
   refine finQ.r (v := (.agg ([(.int .i64 0), (.int .i64 0), (.int .i64 0), (.int .i64 0), (.int .i64 0), (.slice none 0 0)]).toArray)) (resv1 rfl (Rv.cell rfl (loadCN (cs := [(.int .i64 0), (.int .i64 0), (.int .i64 0), (.int .i64 0), (.int .i64 0), (.slice none 0 0)]) wh67 (H26.ob (i := 0) rfl).cl))) ?_
   have H28 := H26.nil_ 31 11
   have hkk : keptB k = false := by
     cases hkb : keptB k with
     | false => rfl
     | true => rw [hkb] at h21; exact absurd rfl h21
   have hx : voteK id k commit = zVote := by unfold voteK; rw [hkk]; rfl
   exact ⟨none, 0, 0, by rw [hx]; rfl, by rw [hx]; exact (H28.sel [0, 3] (by decide) rfl)⟩
  ·skip
   refine RL.nil (thn.n (CW.condF rfl (CW.skip (thn.n (CW.seq ?_)))))
   refine CW.held (fun wq => Sp [BlkA b2 24 [(.int .i64 k.view), (.int .i64 k.normal), (.int .i64 k.base), (.string (tx k.image)), (.slice A n c)], Fix w NoB] wq) Tryz.mixed rfl ?_
   intro w29 g30
   have H31 := H19.grow g30
   have z32 := g30.size
   refine RA.tk 0 0 1 rfl rfl rfl (by kernel_rfl) (fun wq hq => Ex.mv (v := (.int .i64 id)) rfl) (H31.sel [1, 2] (by decide) rfl) ?_
   refine RA.tk 1 1 3 rfl rfl rfl (by kernel_rfl) (fun wq hq => fa24_1 (b := ⟨b2, 1, none⟩) rfl rfl) (H31.sel [1, 2] (by decide) rfl) ?_
   refine RA.tk 3 3 11 rfl rfl rfl (by kernel_rfl) (fun wq hq => fa24_2 (b := ⟨b2, 2, none⟩) rfl rfl) (H31.sel [1, 2] (by decide) rfl) ?_
   refine RA.tk 7 11 139 rfl rfl rfl (by kernel_rfl) (fun wq hq => Ex.mv (v := (.int .i64 commit)) rfl) (H31.sel [1, 2] (by decide) rfl) ?_
   refine RA.tk 8 139 395 rfl rfl rfl (by kernel_rfl) (fun wq hq => fa24_4 (b := ⟨b2, 4, none⟩) rfl rfl) (H31.sel [1, 2] (by decide) rfl) ?_
   refine RA.tk 2 395 399 rfl rfl rfl (by kernel_rfl) (fun wq hq => Ex.ldv rfl (loadC1 lo3 (Ob.cell (v := (.int .i64 k.normal)) (hq.ob (i := 0) rfl) rfl))) (H31.sel [1, 2] (by decide) rfl) ?_
   refine RA.tk 4 399 415 rfl rfl rfl (by kernel_rfl) (fun wq hq => Ex.ldv rfl (loadC1 lo3 (Ob.cell (v := (.int .i64 k.base)) (hq.ob (i := 0) rfl) rfl))) (H31.sel [1, 2] (by decide) rfl) ?_
   refine RA.tk 5 415 447 rfl rfl rfl (by kernel_rfl) (fun wq hq => Ex.ldv rfl (loadCN (cs := [(.int .i64 k.view), (.int .i64 k.normal), (.int .i64 k.base), (.string (tx k.image)), (.slice A n c)]) wh24 (hq.ob (i := 0) rfl).cl)) (H31.sel [1, 2] (by decide) rfl) ?_
   refine RA.tk 9 447 959 rfl rfl rfl (by kernel_rfl) (fun wq hq => Ex.ldv rfl (loadC1 lo22 (Ob.cell (v := (.slice A n c)) (hq.ob (i := 0) rfl) rfl))) (H31.sel [1, 2] (by decide) rfl) ?_
   refine RA.one (i := 6) (by kernel_rfl) ?_
   refine ⟨_, 1023, rfl, by kernel_rfl, ?_⟩
   refine RL.call Tryz.call62 (Last_ _ _ _ k (KeptR.of (k := k) (n := n) (c := c) (hr.st0 (H31.fix (i := 2) rfl)) (by show n = (k.ents).length; (try simp only [List.length_append, List.length_cons, List.length_nil, List.length_take, List.length_drop]); all_goals omega) (by omega) (by omega) (by first | assumption | (show List.length _ ≤ _; first | assumption | decide | omega))) (by omega)) rfl rfl rfl ?_
   rintro _ w33 ⟨rfl, g34⟩
   have H35 := H31.grow g34
   have z36 := g34.size
   refine RL.nil ?_
   refine ⟨(H35.sel [1, 2] (by decide) rfl), ?_⟩
   refine RA.tk 10 1023 2047 rfl rfl rfl (by kernel_rfl) (fun wq hq => Ex.bd (cs := [(.int .i64 id), (.int .i64 k.normal), (.int .i64 k.base), (.int .i64 (lastOf k)), (.int .i64 commit), (.slice A n c)]) bd67 rfl) (H35.sel [1, 2] (by decide) rfl) ?_
   refine RA.one (i := 11) (by kernel_rfl) ?_
   refine ⟨_, 4095, rfl, by kernel_rfl, ?_⟩
   refine RL.call Tryz.call113 (own_ _ _ ⟨id, k.normal, k.base, (lastOf k), commit, k.ents⟩ A n c (hr.st0 (H35.fix (i := 2) rfl)) (by omega) (by first | assumption | rfl | omega) (by first | assumption | rfl | omega) (by first | assumption | rfl | omega)) rfl rfl rfl ?_
   rintro _ w39 ⟨A37, c38, rfl, g40⟩
   have g41 := g40.fix (i := 1) rfl
   have H42 : Sp [RowA 31 11 A37 n c38 (ents k.ents), BlkA b10 67 [(.int .i64 0), (.int .i64 0), (.int .i64 0), (.int .i64 0), (.int .i64 0), (.slice none 0 0)], BlkA b2 24 [(.int .i64 k.view), (.int .i64 k.normal), (.int .i64 k.base), (.string (tx k.image)), (.slice A n c)], Fix w NoB] w39 := H35.join (m := [RowA 31 11 A37 n c38 (ents k.ents)]) g40
   have z43 := g41.size
   refine RL.nil ?_
   refine ⟨(H42.sel [2, 3] (by decide) rfl), ?_⟩
   refine RA.one (i := 12) (by kernel_rfl) ?_
   refine ⟨_, 8191, rfl, by kernel_rfl, ?_⟩
   refine RL.st (vs := [(.int .i64 id), (.int .i64 k.normal), (.int .i64 k.base), (.int .i64 (lastOf k)), (.int .i64 commit), (.slice A37 n c38)]) (cs' := [(.int .i64 id), (.int .i64 k.normal), (.int .i64 k.base), (.int .i64 (lastOf k)), (.int .i64 commit), (.slice A37 n c38)]) Tryz.sizeOf67 (H42.ob (i := 1) rfl) rfl rfl rfl rfl rfl rfl ?_
   intro w44 hz45 g46 o47
   have H48 : Sp [RowA 31 11 A37 n c38 (ents k.ents), BlkA b10 67 [(.int .i64 id), (.int .i64 k.normal), (.int .i64 k.base), (.int .i64 (lastOf k)), (.int .i64 commit), (.slice A37 n c38)], BlkA b2 24 [(.int .i64 k.view), (.int .i64 k.normal), (.int .i64 k.base), (.string (tx k.image)), (.slice A n c)], Fix w NoB] w44 := H42.setB (i := 1) rfl g46 o47 rfl
   have z49 := g46.size
   refine RL.nil ?_
   refine ⟨(H48.sel [2, 3] (by decide) rfl), ?_⟩
   refine RA.done (by kernel_rfl) ?_
   refine thn.n (CW.ret ?_)
   refine finQ.r (v := (.agg ([(.int .i64 id), (.int .i64 k.normal), (.int .i64 k.base), (.int .i64 (lastOf k)), (.int .i64 commit), (.slice A37 n c38)]).toArray)) (resv1 rfl (Rv.cell rfl (loadCN (cs := [(.int .i64 id), (.int .i64 k.normal), (.int .i64 k.base), (.int .i64 (lastOf k)), (.int .i64 commit), (.slice A37 n c38)]) wh67 (H48.ob (i := 1) rfl).cl))) ?_
   have hkk : keptB k = true := by
     cases hkb : keptB k with
     | true => rfl
     | false => rw [hkb] at h21; exact absurd (by decide) h21
   have hx : voteK id k commit = ⟨id, k.normal, k.base, lastOf k, commit, k.ents⟩ := by unfold voteK; rw [hkk]; rfl
   exact ⟨_, _, _, by rw [hx], by rw [hx]; exact (H48.sel [0, 3] (by decide) rfl)⟩
end Go.Proofs.YtfokljnhllflbaaGreat
