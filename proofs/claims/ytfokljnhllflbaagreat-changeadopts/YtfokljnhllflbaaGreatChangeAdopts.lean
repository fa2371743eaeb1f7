/- Another log is taken by just the record that the document says, or is not: for every input, with no condition. -/
import Derived.Deep.Quiet
import Derived.Ground.NamesProg
import Derived.Ground.SlgcProg
import Derived.Ground.SlsfProg
import Derived.JoinedOf
import Derived.Laws.BytesString
import Derived.Laws.MakeOwn
import Derived.Laws.Strings
import Derived.Lib.AppendZeros
import Derived.Lib.ConvBytes
import Derived.Lib.Overlaps
import Derived.Maps.AppendAt
import Derived.OrdersHeld
import Derived.ProofKit
import Derived.Recover
import Derived.ScopeJumps
import Derived.Shelf.SlSortCmp.NoneTotal
import Derived.Shelf.SlSortCmp.WholeK
import Derived.Shelf.SlicesG.Cmp
import Derived.Shelf.Small.Bits
import Derived.Sort.OwnSortedInts
import Derived.StillTail
import Derived.Test.YtfokljnhllflbaaGreatProg
import Derived.Test.YtfokljnhllflbaaGreatRows
import Derived.WalkKit
import Derived.WalkLawsBesides
import Derived.WalkSpells
import Derived.Test.YtfokljnhllflbaaGreatPChangeAdopts5
set_option linter.unusedSimpArgs false
set_option linter.unusedVariables false
namespace Go.Proofs.YtfokljnhllflbaaGreat
open Go Go.Eng Go.RowKit
set_option maxHeartbeats 2000000 in
set_option maxRecDepth 20000 in
theorem changeAdopts_ (w : World) (B : Nat) (k : Kept) (A : Option Addr) (n c : Nat) (hr : Rd w B 11 A (ents k.ents)) (hB : B ≤ w.heap.size) (hn : n = k.ents.length) (hc : n ≤ c) (commit view base : Int) (hcr : rng commit) (l : List Entry) (A2 : Option Addr) (n2 c2 : Nat) (hr2 : Rd w B 11 A2 (ents l)) (hn2 : n2 = l.length) (hc2 : n2 ≤ c2) (hok : ∀ e ∈ l, rng e.num) : Ret Tryz.prog 3 [(.agg ([(J k.view), (J k.normal), (J k.base), (.string (tx k.image)), (.slice A n c)]).toArray), (J commit), (J view), (J base), (.slice A2 n2 c2)] w (fun v w' => v = .bool true ∧ w.grownBy w' none) := by
  have H0 : Sp [Bd w Bl] w := Bn w
  refine Ret.body Tryz.func3 rfl rfl rfl ?_
  refine CW.seq (CW.region (RL.bx (cs := [(J k.view), (J k.normal), (J k.base), (.string (tx k.image)), (.slice A n c)]) rfl rfl rfl ?_))
  intro w1 b2 hb3 hz4 g5 o6
  have H7 := H0.newB g5 o6 (by omega)
  have z8 := g5.size
  refine za (bF) rfl (RL.nil (thn.n (CW.seq (CW.seq (CW.region (zg rfl (Ai rfl (Ak (cs := [(J k.view), (J k.normal), (J k.base), (.string (tx k.image)), (.slice A n c)]) wh24 (H7.ob (i := 0) rfl).cl)) (zm (.slice A2 n2 c2) rfl (zg rfl (Cc (cs := [(J 0), (J 0), (J 0), (J 0), (.string (⟨#[]⟩)), (J 0), (J 0), (J 0), (J 0), (J 0), (J 0), (J 0), (J 0), (J 0), (J 0), (J 0), (.slice A2 n2 c2)]) bd33 rfl) (RL.call Tryz.call23 (big15 _ k A n c (by first | assumption | rfl | omega) (⟨0, 0, 0, 0, [], (⟨0, 0, 0, 0, ⟨0, 0, 0, 0, 0, 0, 0⟩⟩ : Entry), l⟩ : Rec) A2 n2 c2 (by first | assumption | rfl | omega)) rfl rfl rfl ?_)))))))))
  rintro _ w9 ⟨rfl, g10⟩
  have H11 := H7.grow g10
  have z12 := g10.size
  rcases hb13 : (bigK k (⟨0, 0, 0, 0, [], (⟨0, 0, 0, 0, ⟨0, 0, 0, 0, 0, 0, 0⟩⟩ : Entry), l⟩ : Rec)) with _ | _
  ·obtain ⟨hbg1, hbg2, hbg3, hbg4⟩ := bigK_f hb13
   refine RL.nil (thn.n (Ag rfl (CW.skip (thn.n (CW.seq (CW.region ?_))))))
   have hbl : l.length ≤ 300 := hbg2
   refine zg rfl (Ai rfl (Ak (cs := [(J k.view), (J k.normal), (J k.base), (.string (tx k.image)), (.slice A n c)]) wh24 (H11.ob (i := 0) rfl).cl)) (RL.call Tryz.call24 (own15_ _ w9.heap.size k A n c ((hr.st0 (H11.fix (i := 1) rfl)).more (by omega)) (Nat.le_refl _) (by first | assumption | rfl | omega) (by omega)) rfl rfl rfl ?_)
   rintro _ w17 ⟨A14, n15, c16, rfl, g18⟩
   have g19 := g18.fix (i := 1) rfl
   have H20 : Sp [Ar 31 11 A14 n15 c16 (ents k.ents), Af b2 24 [(J k.view), (J k.normal), (J k.base), (.string (tx k.image)), (.slice A n c)], Bd w Bl] w17 := H11.join (m := [Ar 31 11 A14 n15 c16 (ents k.ents)]) g18
   have z21 := g19.size
   refine RL.al (cs := [(J 0), (J 0), (J 0), (.string (⟨#[]⟩)), (.slice none 0 0)]) Tryz.zeroValue24 rfl rfl rfl ?_
   intro w22 b23 hb24 hz25 g26 o27
   have H28 := H20.newB g26 o27 (by omega)
   have z29 := g26.size
   refine RL.st (vs := [(J k.view), (J k.normal), (J k.base), (.string (tx k.image)), (.slice A14 n15 c16)]) (cs' := [(J k.view), (J k.normal), (J k.base), (.string (tx k.image)), (.slice A14 n15 c16)]) Tryz.sizeOf24 (H28.ob (i := 0) rfl) rfl rfl rfl rfl rfl rfl ?_
   intro w30 hz31 g32 o33
   have H34 : Sp [Af b23 24 [(J k.view), (J k.normal), (J k.base), (.string (tx k.image)), (.slice A14 n15 c16)], Ar 31 11 A14 n15 c16 (ents k.ents), Af b2 24 [(J k.view), (J k.normal), (J k.base), (.string (tx k.image)), (.slice A n c)], Bd w Bl] w30 := H28.setB (i := 0) rfl g32 o33 rfl
   have z35 := g32.size
   refine RL.nil (thn.n (CW.seq (CW.region (za (.slice none 0 0) rfl (RL.nil (thn.n (CW.seq (CW.region (zm (.slice none 0 0) rfl (zm (.slice A2 n2 c2) rfl ?_))))))))))
   have H36 := H34.nil_ 31 11
   refine RL.apW (base := 0) (xss := (ents [])) (yss := (ents l)) el22 (H36.wr (i := 0) rfl) rfl (hr2.st0 (H36.fix (i := 4) rfl)) rfl (by simp only [As, Av, At, Ap, An, Bb, List.length_append, List.length_cons, List.length_nil, List.length_take, List.length_drop, List.length_map, Cy, enc8, Bq, Bt, Ca]; try omega) (ents_one _) (by omega) (by omega) (by omega) rfl rfl ?_
   intro w37 A38 c39 g40 ow41 nx42
   have H43 : Sp [Ar 31 11 A38 (0 + n2) c39 (ents l), Af b23 24 [(J k.view), (J k.normal), (J k.base), (.string (tx k.image)), (.slice A14 n15 c16)], Ar 31 11 A14 n15 c16 (ents k.ents), Af b2 24 [(J k.view), (J k.normal), (J k.base), (.string (tx k.image)), (.slice A n c)], Bd w Bl] w37 := H36.setR (i := 0) rfl g40 ((List.nil_append _) ▸ ow41) nx42 rfl
   have z44 := g40.size
   refine za (.slice A38 (0 + n2) c39) rfl (RL.nil (thn.n (CW.seq (CW.region (zg rfl (Ai rfl (Ak (cs := [(J k.view), (J k.normal), (J k.base), (.string (tx k.image)), (.slice A n c)]) wh24 (H43.ob (i := 3) rfl).cl)) (zm (J commit) rfl (zm (J view) rfl (zm (J base) rfl (zm (.slice A2 n2 c2) rfl (RL.call Tryz.call25 (adopt_ _ w37.heap.size k A n c ((hr.st0 (H43.fix (i := 4) rfl)).more (by omega)) (by omega) (by first | assumption | rfl | omega | decide +kernel) (by first | assumption | rfl | omega | decide +kernel) (by first | assumption | rfl | omega | decide +kernel) (by first | assumption | rfl | omega | decide +kernel) commit view base (by first | assumption | decide | (unfold rng; omega)) l A2 n2 c2 ((hr2.st0 (H43.fix (i := 4) rfl)).more (by omega)) (by first | assumption | rfl | omega | decide +kernel) (by first | assumption | rfl | omega | decide +kernel) (by first | assumption | rfl | omega | decide +kernel)) rfl rfl rfl ?_))))))))))
   rintro _ w48 ⟨A45, n46, c47, rfl, g49⟩
   have g50 := g49.fix (i := 1) rfl
   have H51 : Sp [Ar 31 11 A45 n46 c47 (ents ((Aa k commit view base l).ents)), Ar 31 11 A38 (0 + n2) c39 (ents l), Af b23 24 [(J k.view), (J k.normal), (J k.base), (.string (tx k.image)), (.slice A14 n15 c16)], Ar 31 11 A14 n15 c16 (ents k.ents), Af b2 24 [(J k.view), (J k.normal), (J k.base), (.string (tx k.image)), (.slice A n c)], Bd w Bl] w48 := H43.join (m := [Ar 31 11 A45 n46 c47 (ents ((Aa k commit view base l).ents))]) g49
   have z52 := g50.size
   refine zm (.tuple #[(.agg ([(J ((Aa k commit view base l).kind)), (J ((Aa k commit view base l).view)), (J ((Aa k commit view base l).from_)), (J ((Aa k commit view base l).number)), (.string (tx (Aa k commit view base l).image)), (J ((Aa k commit view base l).entry.num)), (J ((Aa k commit view base l).entry.view)), (J ((Aa k commit view base l).entry.client)), (J ((Aa k commit view base l).entry.seq)), (J ((Aa k commit view base l).entry.op.kind)), (J ((Aa k commit view base l).entry.op.h)), (J ((Aa k commit view base l).entry.op.i)), (J ((Aa k commit view base l).entry.op.n)), (J ((Aa k commit view base l).entry.op.k)), (J ((Aa k commit view base l).entry.op.v)), (J ((Aa k commit view base l).entry.op.t)), (.slice A45 n46 c47)]).toArray), (.bool (Bx k commit view base l))]) rfl (zx (.agg ([(J ((Aa k commit view base l).kind)), (J ((Aa k commit view base l).view)), (J ((Aa k commit view base l).from_)), (J ((Aa k commit view base l).number)), (.string (tx (Aa k commit view base l).image)), (J ((Aa k commit view base l).entry.num)), (J ((Aa k commit view base l).entry.view)), (J ((Aa k commit view base l).entry.client)), (J ((Aa k commit view base l).entry.seq)), (J ((Aa k commit view base l).entry.op.kind)), (J ((Aa k commit view base l).entry.op.h)), (J ((Aa k commit view base l).entry.op.i)), (J ((Aa k commit view base l).entry.op.n)), (J ((Aa k commit view base l).entry.op.k)), (J ((Aa k commit view base l).entry.op.v)), (J ((Aa k commit view base l).entry.op.t)), (.slice A45 n46 c47)]).toArray) rfl ?_)
   refine zx (.bool (Bx k commit view base l)) rfl (RL.al (cs := [(J 0), (J 0), (J 0), (J 0), (.string (⟨#[]⟩)), (J 0), (J 0), (J 0), (J 0), (J 0), (J 0), (J 0), (J 0), (J 0), (J 0), (J 0), (.slice none 0 0)]) Tryz.zeroValue33 rfl rfl rfl ?_)
   intro w53 b54 hb55 hz56 g57 o58
   have H59 := H51.newB g57 o58 (by omega)
   have z60 := g57.size
   refine RL.st (vs := [(J ((Aa k commit view base l).kind)), (J ((Aa k commit view base l).view)), (J ((Aa k commit view base l).from_)), (J ((Aa k commit view base l).number)), (.string (tx (Aa k commit view base l).image)), (J ((Aa k commit view base l).entry.num)), (J ((Aa k commit view base l).entry.view)), (J ((Aa k commit view base l).entry.client)), (J ((Aa k commit view base l).entry.seq)), (J ((Aa k commit view base l).entry.op.kind)), (J ((Aa k commit view base l).entry.op.h)), (J ((Aa k commit view base l).entry.op.i)), (J ((Aa k commit view base l).entry.op.n)), (J ((Aa k commit view base l).entry.op.k)), (J ((Aa k commit view base l).entry.op.v)), (J ((Aa k commit view base l).entry.op.t)), (.slice A45 n46 c47)]) (cs' := [(J ((Aa k commit view base l).kind)), (J ((Aa k commit view base l).view)), (J ((Aa k commit view base l).from_)), (J ((Aa k commit view base l).number)), (.string (tx (Aa k commit view base l).image)), (J ((Aa k commit view base l).entry.num)), (J ((Aa k commit view base l).entry.view)), (J ((Aa k commit view base l).entry.client)), (J ((Aa k commit view base l).entry.seq)), (J ((Aa k commit view base l).entry.op.kind)), (J ((Aa k commit view base l).entry.op.h)), (J ((Aa k commit view base l).entry.op.i)), (J ((Aa k commit view base l).entry.op.n)), (J ((Aa k commit view base l).entry.op.k)), (J ((Aa k commit view base l).entry.op.v)), (J ((Aa k commit view base l).entry.op.t)), (.slice A45 n46 c47)]) Tryz.sizeOf33 (H59.ob (i := 0) rfl) rfl rfl rfl rfl rfl rfl ?_
   intro w61 hz62 g63 o65
   have H66 : Sp [Af b54 33 [(J ((Aa k commit view base l).kind)), (J ((Aa k commit view base l).view)), (J ((Aa k commit view base l).from_)), (J ((Aa k commit view base l).number)), (.string (tx (Aa k commit view base l).image)), (J ((Aa k commit view base l).entry.num)), (J ((Aa k commit view base l).entry.view)), (J ((Aa k commit view base l).entry.client)), (J ((Aa k commit view base l).entry.seq)), (J ((Aa k commit view base l).entry.op.kind)), (J ((Aa k commit view base l).entry.op.h)), (J ((Aa k commit view base l).entry.op.i)), (J ((Aa k commit view base l).entry.op.n)), (J ((Aa k commit view base l).entry.op.k)), (J ((Aa k commit view base l).entry.op.v)), (J ((Aa k commit view base l).entry.op.t)), (.slice A45 n46 c47)], Ar 31 11 A45 n46 c47 (ents ((Aa k commit view base l).ents)), Ar 31 11 A38 (0 + n2) c39 (ents l), Af b23 24 [(J k.view), (J k.normal), (J k.base), (.string (tx k.image)), (.slice A14 n15 c16)], Ar 31 11 A14 n15 c16 (ents k.ents), Af b2 24 [(J k.view), (J k.normal), (J k.base), (.string (tx k.image)), (.slice A n c)], Bd w Bl] w61 := H59.setB (i := 0) rfl g63 o65 rfl
   have z67 := g63.size
   refine za (.bool (Bx k commit view base l)) rfl (RL.nil (thn.n (CW.seq (CW.region (zg rfl (Ai rfl (Ak (cs := [(J k.view), (J k.normal), (J k.base), (.string (tx k.image)), (.slice A14 n15 c16)]) wh24 (H66.ob (i := 3) rfl).cl)) (zm (J commit) rfl (zm (J view) rfl (zm (J base) rfl (zm (.slice A38 (0 + n2) c39) rfl ?_)))))))))
   have hl68 := H66.len (i := 4) rfl
   rw [Bb] at hl68
   have hc69 := H66.cap (i := 4) rfl
   have hl70 := H66.len (i := 4) rfl
   rw [Bb] at hl70
   have hl71 := H66.len (i := 2) rfl
   rw [Bb] at hl71
   refine RL.call Tryz.call26 (adoptRf_ _ w61.heap.size k A14 n15 c16 ((H66.rowrd (i := 4) rfl).more (Nat.le_refl _)) (Nat.le_refl _) (by first | assumption | rfl | omega) (by first | assumption | rfl | omega) (by first | assumption | rfl | omega) (by first | assumption | rfl | omega) commit view base l A38 (0 + n2) c39 ((H66.rowrd (i := 2) rfl).more (Nat.le_refl _)) (by first | assumption | rfl | omega) (by first | assumption | rfl | omega) hok) rfl rfl rfl ?_
   rintro _ w75 ⟨A72, n73, c74, rfl, g76⟩
   have g77 := g76.fix (i := 1) rfl
   have H78 : Sp [Ar 31 11 A72 n73 c74 (ents ((Aa k commit view base l).ents)), Af b54 33 [(J ((Aa k commit view base l).kind)), (J ((Aa k commit view base l).view)), (J ((Aa k commit view base l).from_)), (J ((Aa k commit view base l).number)), (.string (tx (Aa k commit view base l).image)), (J ((Aa k commit view base l).entry.num)), (J ((Aa k commit view base l).entry.view)), (J ((Aa k commit view base l).entry.client)), (J ((Aa k commit view base l).entry.seq)), (J ((Aa k commit view base l).entry.op.kind)), (J ((Aa k commit view base l).entry.op.h)), (J ((Aa k commit view base l).entry.op.i)), (J ((Aa k commit view base l).entry.op.n)), (J ((Aa k commit view base l).entry.op.k)), (J ((Aa k commit view base l).entry.op.v)), (J ((Aa k commit view base l).entry.op.t)), (.slice A45 n46 c47)], Ar 31 11 A45 n46 c47 (ents ((Aa k commit view base l).ents)), Ar 31 11 A38 (0 + n2) c39 (ents l), Af b23 24 [(J k.view), (J k.normal), (J k.base), (.string (tx k.image)), (.slice A14 n15 c16)], Ar 31 11 A14 n15 c16 (ents k.ents), Af b2 24 [(J k.view), (J k.normal), (J k.base), (.string (tx k.image)), (.slice A n c)], Bd w Bl] w75 := H66.join (m := [Ar 31 11 A72 n73 c74 (ents ((Aa k commit view base l).ents))]) g76
   have z79 := g77.size
   refine zm (.tuple #[(.agg ([(J ((Aa k commit view base l).kind)), (J ((Aa k commit view base l).view)), (J ((Aa k commit view base l).from_)), (J ((Aa k commit view base l).number)), (.string (tx (Aa k commit view base l).image)), (J ((Aa k commit view base l).entry.num)), (J ((Aa k commit view base l).entry.view)), (J ((Aa k commit view base l).entry.client)), (J ((Aa k commit view base l).entry.seq)), (J ((Aa k commit view base l).entry.op.kind)), (J ((Aa k commit view base l).entry.op.h)), (J ((Aa k commit view base l).entry.op.i)), (J ((Aa k commit view base l).entry.op.n)), (J ((Aa k commit view base l).entry.op.k)), (J ((Aa k commit view base l).entry.op.v)), (J ((Aa k commit view base l).entry.op.t)), (.slice A72 n73 c74)]).toArray), (.bool (Bx k commit view base l))]) rfl (zx (.agg ([(J ((Aa k commit view base l).kind)), (J ((Aa k commit view base l).view)), (J ((Aa k commit view base l).from_)), (J ((Aa k commit view base l).number)), (.string (tx (Aa k commit view base l).image)), (J ((Aa k commit view base l).entry.num)), (J ((Aa k commit view base l).entry.view)), (J ((Aa k commit view base l).entry.client)), (J ((Aa k commit view base l).entry.seq)), (J ((Aa k commit view base l).entry.op.kind)), (J ((Aa k commit view base l).entry.op.h)), (J ((Aa k commit view base l).entry.op.i)), (J ((Aa k commit view base l).entry.op.n)), (J ((Aa k commit view base l).entry.op.k)), (J ((Aa k commit view base l).entry.op.v)), (J ((Aa k commit view base l).entry.op.t)), (.slice A72 n73 c74)]).toArray) rfl ?_)
   refine zx (.bool (Bx k commit view base l)) rfl (RL.al (cs := [(J 0), (J 0), (J 0), (J 0), (.string (⟨#[]⟩)), (J 0), (J 0), (J 0), (J 0), (J 0), (J 0), (J 0), (J 0), (J 0), (J 0), (J 0), (.slice none 0 0)]) Tryz.zeroValue33 rfl rfl rfl ?_)
   intro w80 b81 hb82 hz83 g84 o85
   have H86 := H78.newB g84 o85 (by omega)
   have z87 := g84.size
   refine RL.st (vs := [(J ((Aa k commit view base l).kind)), (J ((Aa k commit view base l).view)), (J ((Aa k commit view base l).from_)), (J ((Aa k commit view base l).number)), (.string (tx (Aa k commit view base l).image)), (J ((Aa k commit view base l).entry.num)), (J ((Aa k commit view base l).entry.view)), (J ((Aa k commit view base l).entry.client)), (J ((Aa k commit view base l).entry.seq)), (J ((Aa k commit view base l).entry.op.kind)), (J ((Aa k commit view base l).entry.op.h)), (J ((Aa k commit view base l).entry.op.i)), (J ((Aa k commit view base l).entry.op.n)), (J ((Aa k commit view base l).entry.op.k)), (J ((Aa k commit view base l).entry.op.v)), (J ((Aa k commit view base l).entry.op.t)), (.slice A72 n73 c74)]) (cs' := [(J ((Aa k commit view base l).kind)), (J ((Aa k commit view base l).view)), (J ((Aa k commit view base l).from_)), (J ((Aa k commit view base l).number)), (.string (tx (Aa k commit view base l).image)), (J ((Aa k commit view base l).entry.num)), (J ((Aa k commit view base l).entry.view)), (J ((Aa k commit view base l).entry.client)), (J ((Aa k commit view base l).entry.seq)), (J ((Aa k commit view base l).entry.op.kind)), (J ((Aa k commit view base l).entry.op.h)), (J ((Aa k commit view base l).entry.op.i)), (J ((Aa k commit view base l).entry.op.n)), (J ((Aa k commit view base l).entry.op.k)), (J ((Aa k commit view base l).entry.op.v)), (J ((Aa k commit view base l).entry.op.t)), (.slice A72 n73 c74)]) Tryz.sizeOf33 (H86.ob (i := 0) rfl) rfl rfl rfl rfl rfl rfl ?_
   intro w88 hz89 g90 o91
   have H92 : Sp [Af b81 33 [(J ((Aa k commit view base l).kind)), (J ((Aa k commit view base l).view)), (J ((Aa k commit view base l).from_)), (J ((Aa k commit view base l).number)), (.string (tx (Aa k commit view base l).image)), (J ((Aa k commit view base l).entry.num)), (J ((Aa k commit view base l).entry.view)), (J ((Aa k commit view base l).entry.client)), (J ((Aa k commit view base l).entry.seq)), (J ((Aa k commit view base l).entry.op.kind)), (J ((Aa k commit view base l).entry.op.h)), (J ((Aa k commit view base l).entry.op.i)), (J ((Aa k commit view base l).entry.op.n)), (J ((Aa k commit view base l).entry.op.k)), (J ((Aa k commit view base l).entry.op.v)), (J ((Aa k commit view base l).entry.op.t)), (.slice A72 n73 c74)], Ar 31 11 A72 n73 c74 (ents ((Aa k commit view base l).ents)), Af b54 33 [(J ((Aa k commit view base l).kind)), (J ((Aa k commit view base l).view)), (J ((Aa k commit view base l).from_)), (J ((Aa k commit view base l).number)), (.string (tx (Aa k commit view base l).image)), (J ((Aa k commit view base l).entry.num)), (J ((Aa k commit view base l).entry.view)), (J ((Aa k commit view base l).entry.client)), (J ((Aa k commit view base l).entry.seq)), (J ((Aa k commit view base l).entry.op.kind)), (J ((Aa k commit view base l).entry.op.h)), (J ((Aa k commit view base l).entry.op.i)), (J ((Aa k commit view base l).entry.op.n)), (J ((Aa k commit view base l).entry.op.k)), (J ((Aa k commit view base l).entry.op.v)), (J ((Aa k commit view base l).entry.op.t)), (.slice A45 n46 c47)], Ar 31 11 A45 n46 c47 (ents ((Aa k commit view base l).ents)), Ar 31 11 A38 (0 + n2) c39 (ents l), Af b23 24 [(J k.view), (J k.normal), (J k.base), (.string (tx k.image)), (.slice A14 n15 c16)], Ar 31 11 A14 n15 c16 (ents k.ents), Af b2 24 [(J k.view), (J k.normal), (J k.base), (.string (tx k.image)), (.slice A n c)], Bd w Bl] w88 := H86.setB (i := 0) rfl g90 o91 rfl
   have z93 := g90.size
   refine za (.bool (Bx k commit view base l)) rfl (RL.nil (thn.n (CW.seq (CW.region ?_))))
   have hal := adoptR_len k commit view base l
   refine zm (.bool (Bx k commit view base l)) rfl (zm (.bool (Bx k commit view base l)) rfl (zg rfl (Ex.eqB (r := true) Tryz.underlying4 rfl rfl (by simp)) (zm (bT) rfl (zg rfl (Ai rfl (Ak (cs := [(J ((Aa k commit view base l).kind)), (J ((Aa k commit view base l).view)), (J ((Aa k commit view base l).from_)), (J ((Aa k commit view base l).number)), (.string (tx (Aa k commit view base l).image)), (J ((Aa k commit view base l).entry.num)), (J ((Aa k commit view base l).entry.view)), (J ((Aa k commit view base l).entry.client)), (J ((Aa k commit view base l).entry.seq)), (J ((Aa k commit view base l).entry.op.kind)), (J ((Aa k commit view base l).entry.op.h)), (J ((Aa k commit view base l).entry.op.i)), (J ((Aa k commit view base l).entry.op.n)), (J ((Aa k commit view base l).entry.op.k)), (J ((Aa k commit view base l).entry.op.v)), (J ((Aa k commit view base l).entry.op.t)), (.slice A45 n46 c47)]) wh33 (H92.ob (i := 2) rfl).cl)) ?_))))
   refine zg rfl (Ai rfl (Ak (cs := [(J ((Aa k commit view base l).kind)), (J ((Aa k commit view base l).view)), (J ((Aa k commit view base l).from_)), (J ((Aa k commit view base l).number)), (.string (tx (Aa k commit view base l).image)), (J ((Aa k commit view base l).entry.num)), (J ((Aa k commit view base l).entry.view)), (J ((Aa k commit view base l).entry.client)), (J ((Aa k commit view base l).entry.seq)), (J ((Aa k commit view base l).entry.op.kind)), (J ((Aa k commit view base l).entry.op.h)), (J ((Aa k commit view base l).entry.op.i)), (J ((Aa k commit view base l).entry.op.n)), (J ((Aa k commit view base l).entry.op.k)), (J ((Aa k commit view base l).entry.op.v)), (J ((Aa k commit view base l).entry.op.t)), (.slice A72 n73 c74)]) wh33 (H92.ob (i := 0) rfl).cl)) ?_
   have hl94 := H92.len (i := 3) rfl
   rw [Bb] at hl94
   have hl95 := H92.len (i := 1) rfl
   rw [Bb] at hl95
   refine RL.call Tryz.call27 ((Ret.sure (sameRec_ _ w88.heap.size (Aa k commit view base l) (Aa k commit view base l) A45 A72 n46 c47 n73 c74 ((H92.rowrd (i := 3) rfl).more (Nat.le_refl _)) ((H92.rowrd (i := 1) rfl).more (Nat.le_refl _)) (Nat.le_refl _) (by first | assumption | rfl | omega) (by first | assumption | rfl | omega) (by omega)) (decide_eq_true rfl))) rfl rfl rfl ?_
   rintro _ w96 ⟨rfl, g97⟩
   have H98 := H92.grow g97
   have z99 := g97.size
   refine zT (bT) rfl (za (bT) rfl (RL.nil (thn.n (CW.seq (CW.region (zg rfl (fa33_6 (b := ⟨b54, 16, none⟩) rfl rfl) (zl (.slice A45 n46 c47) lo22 (H98.ob (i := 2) rfl) rfl ?_)))))))
   obtain ⟨S101, hS102, hO103, K104⟩ := Sp.takeL (l1 := [Ar 31 11 A45 n46 c47 (ents ((Aa k commit view base l).ents))]) (l2 := [Af b81 33 [(J ((Aa k commit view base l).kind)), (J ((Aa k commit view base l).view)), (J ((Aa k commit view base l).from_)), (J ((Aa k commit view base l).number)), (.string (tx (Aa k commit view base l).image)), (J ((Aa k commit view base l).entry.num)), (J ((Aa k commit view base l).entry.view)), (J ((Aa k commit view base l).entry.client)), (J ((Aa k commit view base l).entry.seq)), (J ((Aa k commit view base l).entry.op.kind)), (J ((Aa k commit view base l).entry.op.h)), (J ((Aa k commit view base l).entry.op.i)), (J ((Aa k commit view base l).entry.op.n)), (J ((Aa k commit view base l).entry.op.k)), (J ((Aa k commit view base l).entry.op.v)), (J ((Aa k commit view base l).entry.op.t)), (.slice A72 n73 c74)], Ar 31 11 A72 n73 c74 (ents ((Aa k commit view base l).ents)), Af b54 33 [(J ((Aa k commit view base l).kind)), (J ((Aa k commit view base l).view)), (J ((Aa k commit view base l).from_)), (J ((Aa k commit view base l).number)), (.string (tx (Aa k commit view base l).image)), (J ((Aa k commit view base l).entry.num)), (J ((Aa k commit view base l).entry.view)), (J ((Aa k commit view base l).entry.client)), (J ((Aa k commit view base l).entry.seq)), (J ((Aa k commit view base l).entry.op.kind)), (J ((Aa k commit view base l).entry.op.h)), (J ((Aa k commit view base l).entry.op.i)), (J ((Aa k commit view base l).entry.op.n)), (J ((Aa k commit view base l).entry.op.k)), (J ((Aa k commit view base l).entry.op.v)), (J ((Aa k commit view base l).entry.op.t)), (.slice A45 n46 c47)], Ar 31 11 A38 (0 + n2) c39 (ents l), Af b23 24 [(J k.view), (J k.normal), (J k.base), (.string (tx k.image)), (.slice A14 n15 c16)], Ar 31 11 A14 n15 c16 (ents k.ents), Af b2 24 [(J k.view), (J k.normal), (J k.base), (.string (tx k.image)), (.slice A n c)], Bd w Bl]) (w := w96) (H98.sel [3, 0, 1, 2, 4, 5, 6, 7, 8] (by decide) rfl)
   refine RL.call Tryz.call28 (over17_ _ S101 A45 n46 c47 ((Aa k commit view base l).ents) hS102) rfl rfl rfl ?_
   rintro _ w105 ⟨l100, rfl, g106⟩
   have H107 : Sp [Ar 31 11 A45 n46 c47 (ents l100), Af b81 33 [(J ((Aa k commit view base l).kind)), (J ((Aa k commit view base l).view)), (J ((Aa k commit view base l).from_)), (J ((Aa k commit view base l).number)), (.string (tx (Aa k commit view base l).image)), (J ((Aa k commit view base l).entry.num)), (J ((Aa k commit view base l).entry.view)), (J ((Aa k commit view base l).entry.client)), (J ((Aa k commit view base l).entry.seq)), (J ((Aa k commit view base l).entry.op.kind)), (J ((Aa k commit view base l).entry.op.h)), (J ((Aa k commit view base l).entry.op.i)), (J ((Aa k commit view base l).entry.op.n)), (J ((Aa k commit view base l).entry.op.k)), (J ((Aa k commit view base l).entry.op.v)), (J ((Aa k commit view base l).entry.op.t)), (.slice A72 n73 c74)], Ar 31 11 A72 n73 c74 (ents ((Aa k commit view base l).ents)), Af b54 33 [(J ((Aa k commit view base l).kind)), (J ((Aa k commit view base l).view)), (J ((Aa k commit view base l).from_)), (J ((Aa k commit view base l).number)), (.string (tx (Aa k commit view base l).image)), (J ((Aa k commit view base l).entry.num)), (J ((Aa k commit view base l).entry.view)), (J ((Aa k commit view base l).entry.client)), (J ((Aa k commit view base l).entry.seq)), (J ((Aa k commit view base l).entry.op.kind)), (J ((Aa k commit view base l).entry.op.h)), (J ((Aa k commit view base l).entry.op.i)), (J ((Aa k commit view base l).entry.op.n)), (J ((Aa k commit view base l).entry.op.k)), (J ((Aa k commit view base l).entry.op.v)), (J ((Aa k commit view base l).entry.op.t)), (.slice A45 n46 c47)], Ar 31 11 A38 (0 + n2) c39 (ents l), Af b23 24 [(J k.view), (J k.normal), (J k.base), (.string (tx k.image)), (.slice A14 n15 c16)], Ar 31 11 A14 n15 c16 (ents k.ents), Af b2 24 [(J k.view), (J k.normal), (J k.base), (.string (tx k.image)), (.slice A n c)], Bd w Bl] w105 := K104 _ _ g106
   have z108 := (H107.fix (i := 8) rfl).size
   refine RL.nil (thn.n (CW.seq (CW.region (RL.call Tryz.call29 (adopts17 _) rfl rfl rfl ?_))))
   rintro _ w109 ⟨rfl, g110⟩
   have H111 := H107.grow g110
   have z112 := g110.size
   refine zm (bT) rfl (zm (bT) rfl (zT (bT) rfl (zm (bT) rfl (zg rfl (Ai rfl (Ak (cs := [(J k.view), (J k.normal), (J k.base), (.string (tx k.image)), (.slice A n c)]) wh24 (H111.ob (i := 7) rfl).cl)) (zg rfl (Ai rfl (Ak (cs := [(J k.view), (J k.normal), (J k.base), (.string (tx k.image)), (.slice A14 n15 c16)]) wh24 (H111.ob (i := 5) rfl).cl)) ?_)))))
   have hl113 := H111.len (i := 6) rfl
   rw [Bb] at hl113
   refine RL.call Tryz.call30 ((Ret.sure (same15_ _ w109.heap.size k k A A14 n c n15 c16 ((hr.st0 (H111.fix (i := 8) rfl)).more (by omega)) ((H111.rowrd (i := 6) rfl).more (Nat.le_refl _)) (Nat.le_refl _) (by first | assumption | rfl | omega) (by first | assumption | rfl | omega) (by omega)) (decide_eq_true rfl))) rfl rfl rfl ?_
   rintro _ w114 ⟨rfl, g115⟩
   have H116 := H111.grow g115
   have z117 := g115.size
   refine zT (bT) rfl (zm (bT) rfl (zm (.slice A2 n2 c2) rfl (zm (.slice A38 (0 + n2) c39) rfl ?_)))
   have hl118 := H116.len (i := 4) rfl
   rw [Bb] at hl118
   refine RL.call Tryz.call31 ((Ret.sure (entSameR_ _ _ l l A2 A38 n2 c2 (0 + n2) c39 ((hr2.st0 (H116.fix (i := 8) rfl)).more (by omega)) (by first | assumption | rfl | omega) ((H116.rowrd (i := 4) rfl).more (Nat.le_refl _)) (by first | assumption | rfl | omega) (by omega)) (decide_eq_true rfl))) rfl rfl rfl ?_
   rintro _ w119 ⟨rfl, g120⟩
   have H121 := H116.grow g120
   have z122 := g120.size
   refine zT (bT) rfl (za (bT) rfl (RL.nil (thn.n (CW.ret (finQ.r (v := bT) (Ax rfl rfl) ?_)))))
   exact ⟨rfl, (H121.fix (i := 8) rfl)⟩
  ·skip
   refine RL.nil (thn.n (Ab rfl (CW.seq (CW.region (za (bT) rfl (RL.nil (thn.n (CW.ret (thn.r (finQ.r (v := bT) (Ax rfl rfl) ?_))))))))))
   exact ⟨rfl, (H11.fix (i := 1) rfl)⟩
end Go.Proofs.YtfokljnhllflbaaGreat
namespace Go.Proofs.YtfokljnhllflbaaGreat
open Go
set_option maxRecDepth 100000
def sp : Char := Char.ofNat 32
theorem ws_app (r : List Char) : ∀ (a : List Char), (a.all fun c => c != sp) = true → wordsSigns (a ++ sp :: r) = a :: wordsSigns r
  | [], _ => rfl
  | c :: a, h => by
    simp only [List.all_cons, Bool.and_eq_true, bne_iff_ne, ne_eq] at h
    have ih := ws_app r a h.2
    rw [List.cons_append]
    conv => lhs; unfold wordsSigns
    split
    · rename_i e; cases e
    · rename_i e; injection e with e1 _; exact absurd e1 h.1
    · rename_i c' r' hne e
      injection e with e1 e2
      subst e1
      rw [← e2, ih]
theorem io_eq : Tryz.prog.initOrder.toList = "harness".toList ++ sp :: ("e992cc6d704afc89758aaf8fd9a77071690771db51468eeba60045f0eed610c9".toList ++ sp :: ("cut".toList ++ sp :: Tryz.prog.initOrder.toList.drop 77)) := by kernel_rfl
theorem io_words : behindMainWord (wordsSigns Tryz.prog.initOrder.toList) = "cut".toList :: wordsSigns (Tryz.prog.initOrder.toList.drop 77) := by
  rw [io_eq, ws_app _ _ (by decide), ws_app _ _ (by decide), ws_app _ _ (by decide)]
  rw [← io_eq]
  generalize wordsSigns (Tryz.prog.initOrder.toList.drop 77) = ws
  show (if (("harness".toList == "harness".toList || "harness".toList == "ownmain".toList) && isSumSigns "e992cc6d704afc89758aaf8fd9a77071690771db51468eeba60045f0eed610c9".toList) = true then "cut".toList :: ws else "harness".toList :: "e992cc6d704afc89758aaf8fd9a77071690771db51468eeba60045f0eed610c9".toList :: "cut".toList :: ws) = _
  rw [if_pos (by decide)]
theorem sl (ws : List (List Char)) : stripLifts liftWords ("cut".toList :: ws) = ([], "cut".toList :: ws) := by
  unfold liftWords
  simp only [stripLifts]
  rfl
theorem hl : Tryz.prog.headLifts = [] := by unfold Program.headLifts; rw [io_words, sl]; rfl
theorem jf_later : Tryz.prog.laysLater = false := by kernel_rfl
theorem jf_refl : Tryz.prog.bearsReflect = false := by kernel_rfl
theorem jf_rows : Tryz.prog.doorRows = [] := by kernel_rfl
theorem jf_door : Tryz.prog.doorFits [] = true := by unfold Program.doorFits; rw [jf_rows]; rfl
theorem jf_may : Tryz.prog.mayEnter = true := by
  unfold Program.mayEnter
  rw [io_words]
  generalize wordsSigns (Tryz.prog.initOrder.toList.drop 77) = ws
  have e := sl ws
  simp only [e, jf_later, jf_refl, jf_door]
  simp
theorem jf_lift : Tryz.prog.liftsFinal = false := by
  unfold Program.liftsFinal
  rw [io_words, hl]
  generalize wordsSigns (Tryz.prog.initOrder.toList.drop 77) = ws
  rfl
theorem jf_make : Tryz.prog.make = some .cut := by
  unfold Program.make
  rw [io_words]
  generalize wordsSigns (Tryz.prog.initOrder.toList.drop 77) = ws
  rfl
end Go.Proofs.YtfokljnhllflbaaGreat
namespace Go.Proofs.YtfokljnhllflbaaGreat
open Go
set_option maxRecDepth 100000
theorem jf_changeAdopts0 : (Rows.changeAdoptsRow.wf (OpenSpec.ofChange Rows.changeAdoptsSpec)) = true := by kernel_rfl
theorem jf_changeAdopts1 : (laidOutB Tryz.prog) = true := by kernel_rfl
theorem jf_changeAdopts2 : (mapsRowed Tryz.prog) = true := by kernel_rfl
theorem jf_changeAdopts3 : (Tryz.f3.params.all (Tryz.prog.readableRec ·)) = true := by kernel_rfl
theorem jf_changeAdopts4 : (namedTie Tryz.prog Rows.changeAdoptsRow.named Rows.changeAdoptsSpec.vars) = true := by kernel_rfl
theorem jf_changeAdopts5 : ((Rows.changeAdoptsRow.stops == [])) = true := by kernel_rfl
theorem jf_changeAdopts6 : ((Tryz.prog.stops == [])) = true := by kernel_rfl
theorem jf_changeAdopts7 : ((Rows.changeAdoptsRow.knobs == [])) = true := by kernel_rfl
theorem jf_changeAdopts8 : ((Tryz.prog.stopKnobs == [])) = true := by kernel_rfl
theorem jf_changeAdopts9 : ((Rows.changeAdoptsRow.inPlace == Tryz.prog.inPlace 3)) = true := by kernel_rfl
theorem jf_changeAdopts10 : ((Rows.changeAdoptsRow.unfollowed == Tryz.prog.unfollowed 3)) = true := by kernel_rfl
theorem jf_changeAdopts11 : ((Rows.changeAdoptsRow.recurses == Tryz.prog.recurses 3)) = true := by kernel_rfl
theorem jf_changeAdopts12 : ((Rows.changeAdoptsRow.named == Tryz.prog.varsNamed 3)) = true := by kernel_rfl
theorem jf_changeAdopts13 : ((Rows.changeAdoptsRow.maps == (Tryz.f3.params.toList ++ Rows.changeAdoptsSpec.plain.varTypes Tryz.prog).any (Tryz.prog.mapsRec ·))) = true := by kernel_rfl
theorem jf_changeAdopts14 : ((Rows.changeAdoptsRow.ifaces == (Tryz.f3.params.toList ++ Rows.changeAdoptsSpec.plain.varTypes Tryz.prog).any (Tryz.prog.ifacesRec ·))) = true := by kernel_rfl
theorem jf_changeAdopts15 : ((Rows.changeAdoptsRow.mapsOut == Tryz.prog.mapsAmong Tryz.f3.resultTypes.toList)) = true := by kernel_rfl
theorem jf_changeAdopts16 : ((Rows.changeAdoptsRow.loops == (Tryz.f3.params.toList ++ Rows.changeAdoptsSpec.plain.varTypes Tryz.prog).any (Tryz.prog.loopsFrom ·))) = true := by kernel_rfl
theorem jf_changeAdopts17 : ((Rows.changeAdoptsRow.wideKeys == (Tryz.f3.params.toList ++ Rows.changeAdoptsSpec.plain.varTypes Tryz.prog ++ Tryz.f3.resultTypes.toList).any (Tryz.prog.wideKeysFrom ·))) = true := by kernel_rfl
theorem jf_changeAdopts18 : (Rows.changeAdoptsSpec.vars.all (Tryz.prog.varReadable ·)) = true := by kernel_rfl
theorem jf_changeAdopts19 : (Tryz.f3.resultTypes.all (fun t => Tryz.prog.readableRec t && decide (t < Tryz.prog.types.size))) = true := by kernel_rfl
theorem jf_changeAdopts20 : ((Rows.changeAdoptsRow.ifacesOut == Tryz.f3.resultTypes.toList.any (Tryz.prog.ifacesRec ·))) = true := by kernel_rfl
theorem jf_changeAdopts21 : ((Rows.changeAdoptsRow.loopsOut == Tryz.f3.resultTypes.toList.any (Tryz.prog.loopsFrom ·))) = true := by kernel_rfl
theorem jf_changeAdopts22 : ((Rows.changeAdoptsRow.plainKeys == Tryz.prog.plainKeys)) = true := by kernel_rfl
theorem jf_changeAdopts23 : (Rows.changeAdoptsRow.shortTexts.isNone) = true := by kernel_rfl
theorem jf_changeAdopts24 : (Tryz.prog.stopsHeard) = true := by kernel_rfl
theorem jf_changeAdopts25 : (Tryz.prog.mayEnter) = true := jf_may
theorem jf_changeAdopts26 : ((Rows.changeAdoptsRow.lifted == Tryz.prog.liftsFinal)) = true := by rw [jf_lift]; rfl
theorem jf_changeAdopts27 : ((Tryz.prog.make == some Rows.changeAdoptsRow.make)) = true := by rw [jf_make]; rfl
theorem jf_changeAdopts28 : ((Rows.changeAdoptsRow.kinds == (if Rows.changeAdoptsRow.domain.isEmpty then [] else Tryz.f3.params.toList.map fun t => match Tryz.prog.underlying t with | some (.int k) => some k | _ => none))) = true := by kernel_rfl
theorem jf_changeAdopts29 : ((Rows.changeAdoptsRow.pinned == Rows.changeAdoptsRow.pinnedBy)) = true := by kernel_rfl
theorem jf_changeAdopts30 : ((Rows.changeAdoptsRow.veiled == (Tryz.f3.params.toList ++ Rows.changeAdoptsSpec.plain.varTypes Tryz.prog ++ Tryz.f3.resultTypes.toList).any (Tryz.prog.veiledRec ·))) = true := by kernel_rfl
theorem jf_changeAdopts31 : (Rows.changeAdoptsRow.veiledFits Tryz.prog Tryz.f3.params.toList (Tryz.f3.params.toList ++ Rows.changeAdoptsSpec.plain.varTypes Tryz.prog ++ Tryz.f3.resultTypes.toList)) = true := by kernel_rfl
theorem jf_changeAdopts : joinedFacts Tryz.prog 3 Tryz.f3 Rows.changeAdoptsSpec Rows.changeAdoptsRow = true := by
  unfold joinedFacts
  simp only [Bool.and_eq_true]
  exact ⟨⟨⟨⟨⟨⟨⟨⟨⟨⟨⟨⟨⟨⟨⟨⟨⟨⟨⟨⟨⟨⟨⟨⟨⟨⟨⟨⟨⟨⟨⟨jf_changeAdopts0, jf_changeAdopts1⟩, jf_changeAdopts2⟩, jf_changeAdopts3⟩, jf_changeAdopts4⟩, jf_changeAdopts5⟩, jf_changeAdopts6⟩, jf_changeAdopts7⟩, jf_changeAdopts8⟩, jf_changeAdopts9⟩, jf_changeAdopts10⟩, jf_changeAdopts11⟩, jf_changeAdopts12⟩, jf_changeAdopts13⟩, jf_changeAdopts14⟩, jf_changeAdopts15⟩, jf_changeAdopts16⟩, jf_changeAdopts17⟩, jf_changeAdopts18⟩, jf_changeAdopts19⟩, jf_changeAdopts20⟩, jf_changeAdopts21⟩, jf_changeAdopts22⟩, jf_changeAdopts23⟩, jf_changeAdopts24⟩, jf_changeAdopts25⟩, jf_changeAdopts26⟩, jf_changeAdopts27⟩, jf_changeAdopts28⟩, jf_changeAdopts29⟩, jf_changeAdopts30⟩, jf_changeAdopts31⟩
end Go.Proofs.YtfokljnhllflbaaGreat
namespace Go.Proofs.YtfokljnhllflbaaGreat
open Go Go.Eng Go.ChangeShapes Go.WideShapes Go.ChangeAt Go.RowKit
set_option maxRecDepth 100000 in
theorem changeAdopts_lifted (os : Os) (started : os.Started) (H : Type) (enc : TypeId × Value → H) :
    ReturnsInHanded {} Tryz.checked os 3 .any (Rows.changeAdoptsSpec.pre6 enc Tryz.prog Tryz.f3 Rows.changeAdoptsRow.domain false) (Rows.changeAdoptsSpec.post enc Tryz.prog Tryz.f3 false true false false) := by
  refine returnsInHanded_of_change (C := Tryz.checked) Tryz.own started (by kernel_rfl) Tryz.func3
    (ChangeSpec.witness6 (enc := enc) (C := Tryz.checked) false ⟨#[], #[(.agg #[(J 0), (J 0), (J 0), (.string (⟨#[]⟩)), (.slice none 0 0)]), (J 0), (J 0), (J 0), (.slice none 0 0)], []⟩ 8 (by kernel_rfl) (by kernel_rfl) (by kernel_rfl) (by kernel_rfl)) ?_
  intro W base args ds gs before hval0 hW hcnd _
  have hval : ∀ (j : Nat) t v, Tryz.f3.params[j]? = some t → args[j]? = some v → Value.okWide Tryz.prog W .any base t v := hval0
  have hW' := hW
  obtain ⟨p, q, hA0, hV, rfl, hfz, hnd⟩ := hW
  have hA : DataW.TrodAll enc Tryz.prog W 0 (fun _ => true) true Tryz.f3.params.toList args.toList ds p := hA0
  rw [Tryz.params3] at hA hval
  clear hA0 hval0
  obtain ⟨v0, vs0, d0, ds0, p0, q0, ha0, rfl, rfl, h0, hA⟩ := trodAll_cons hA
  obtain ⟨v1, vs1, d1, ds1, p1, q1, ha1, rfl, rfl, h1, hA⟩ := trodAll_cons hA
  obtain ⟨v2, vs2, d2, ds2, p2, q2, ha2, rfl, rfl, h2, hA⟩ := trodAll_cons hA
  obtain ⟨v3, vs3, d3, ds3, p3, q3, ha3, rfl, rfl, h3, hA⟩ := trodAll_cons hA
  obtain ⟨v4, vs4, d4, ds4, p4, q4, ha4, rfl, rfl, h4, hA⟩ := trodAll_cons hA
  obtain ⟨hz1, rfl, rfl⟩ := trodAll_nil hA
  obtain ⟨rfl, rfl⟩ := trodVars_none hV
  have hargs : args = #[v0, v1, v2, v3, v4] := by apply Array.ext'; rw [ha0, ha1, ha2, ha3, ha4, hz1]
  subst hargs
  obtain ⟨l0, e0, c0⟩ := tr_agg Tryz.underlying24 (hval 0 24 v0 rfl rfl)
  obtain ⟨m0, h0⟩ := h0
  rw [c0] at h0
  clear c0
  obtain ⟨k, A, n, c, q0, hr, hn, hc, hk0, hk1, hk2, hke⟩ := op_Kept h0
  subst q0
  subst e0
  obtain ⟨commit, q1, hcr⟩ := tr_pint Tryz.underlying3 (hval 1 3 v1 rfl rfl)
  subst q1
  clear h1
  obtain ⟨view, q2, hvr⟩ := tr_pint Tryz.underlying3 (hval 2 3 v2 rfl rfl)
  subst q2
  clear h2
  obtain ⟨base, q3, hbr⟩ := tr_pint Tryz.underlying3 (hval 3 3 v3 rfl rfl)
  subst q3
  clear h3
  obtain ⟨m4, h4⟩ := h4
  obtain ⟨A2, n2, c2, mm4, xs4, q4, hn2, hc2, hr2, hx4⟩ := tr_psl Tryz.underlying22 co31 (by decide) (hval 4 22 v4 rfl rfl) h4
  subst q4
  clear h4
  obtain ⟨l, q4, hle⟩ := tr_list (f := Entry.cells) (p := Entry.ok) (fun y hy => by obtain ⟨z, hz⟩ := hy; exact op_Entry hz) hx4
  subst q4
  rw [List.length_map] at hn2
  refine Calls.mono (changeAdopts_ W W.heap.size k A n c hr (Nat.le_refl _) hn hc commit view base hcr l A2 n2 c2 hr2 hn2 hc2 (fun e he => (hle e he).1)) ?_
  rintro e W' ⟨v, rfl, rfl, g⟩
  exact ⟨_, rfl, law_post (t := 4) Tryz.laidOut (by kernel_rfl) rfl Tryz.underlying4 hW' rfl rfl g⟩
theorem changeAdopts_holds : Rows.ChangeAdoptsSaid :=
  OpenClaim.holds_of_wide 3 Tryz.f3 rfl rfl rfl rfl rfl rfl rfl ⟨rfl, rfl, rfl, rfl, rfl⟩ rfl rfl rfl rfl rfl (by kernel_rfl) Tryz.func3 jf_changeAdopts
    (of_decide_eq_true (by kernel_rfl)) (by unfold Func.isWrapper; first | (rw [if_pos (by decide +kernel)]; kernel_rfl) | (rw [if_neg (by decide +kernel)]; exact ⟨rfl, rfl⟩))
    (fun os started H enc _ => changeAdopts_lifted os started H enc)
#print axioms changeAdopts_holds
end Go.Proofs.YtfokljnhllflbaaGreat
