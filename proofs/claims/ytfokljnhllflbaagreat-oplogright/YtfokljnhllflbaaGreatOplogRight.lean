/- What comes of what is right is right, its View and Normal do not fall, and entries up to where a record cuts stay: for every input, with no condition. -/
import Derived.Deep.Quiet
import Derived.Ground.NamesProg
import Derived.Ground.SlgcProg
import Derived.Ground.SlsfProg
import Derived.JoinedOf
import Derived.Laws.BytesString
import Derived.Laws.MakeOwn
import Derived.Laws.Strings
import Derived.Lib.AppendZeros
import Derived.Lib.ConvBytes
import Derived.Lib.Overlaps
import Derived.Maps.AppendAt
import Derived.OrdersHeld
import Derived.ProofKit
import Derived.Recover
import Derived.ScopeJumps
import Derived.Shelf.SlSortCmp.NoneTotal
import Derived.Shelf.SlSortCmp.WholeK
import Derived.Shelf.SlicesG.Cmp
import Derived.Shelf.Small.Bits
import Derived.Sort.OwnSortedInts
import Derived.StillTail
import Derived.Test.YtfokljnhllflbaaGreatProg
import Derived.Test.YtfokljnhllflbaaGreatRows
import Derived.WalkKit
import Derived.WalkLawsBesides
import Derived.WalkSpells
import Derived.Test.YtfokljnhllflbaaGreatPOplogRight5
set_option linter.unusedSimpArgs false
set_option linter.unusedVariables false
namespace Go.Proofs.YtfokljnhllflbaaGreat
open Go Go.Eng Go.RowKit
set_option maxHeartbeats 2000000 in
set_option maxRecDepth 20000 in
theorem oplogRight_ (w : World) (B : Nat) (k : Kept) (A : Option Addr) (n c : Nat) (hr : Rd w B 11 A (ents k.ents)) (hB : B ≤ w.heap.size) (hn : n = k.ents.length) (hc : n ≤ c) (r : Rec) (A2 : Option Addr) (n2 c2 : Nat) (hr2 : Rd w B 11 A2 (ents r.ents)) (hn2 : n2 = r.ents.length) (hc2 : n2 ≤ c2) : Ret Tryz.prog 9 [(.agg ([(.int .i64 k.view), (.int .i64 k.normal), (.int .i64 k.base), (.string (tx k.image)), (.slice A n c)]).toArray), (.agg ([(.int .i64 r.kind), (.int .i64 r.view), (.int .i64 r.from_), (.int .i64 r.number), (.string (tx r.image)), (.int .i64 r.entry.num), (.int .i64 r.entry.view), (.int .i64 r.entry.client), (.int .i64 r.entry.seq), (.int .i64 r.entry.op.kind), (.int .i64 r.entry.op.h), (.int .i64 r.entry.op.i), (.int .i64 r.entry.op.n), (.int .i64 r.entry.op.k), (.int .i64 r.entry.op.v), (.int .i64 r.entry.op.t), (.slice A2 n2 c2)]).toArray)] w (fun v w' => v = .bool true ∧ w.grownBy w' none) := by
  have H0 : Sp [Fix w NoB] w := Sp.start w
  refine Ret.body Tryz.func9 rfl rfl rfl ?_
  refine CW.seq (CW.region ?_)
  refine RL.bx (cs := [(.int .i64 k.view), (.int .i64 k.normal), (.int .i64 k.base), (.string (tx k.image)), (.slice A n c)]) rfl rfl rfl ?_
  intro w1 b2 hb3 hz4 g5 o6
  have H7 := H0.newB g5 o6 (by omega)
  have z8 := g5.size
  refine RL.bx (cs := [(.int .i64 r.kind), (.int .i64 r.view), (.int .i64 r.from_), (.int .i64 r.number), (.string (tx r.image)), (.int .i64 r.entry.num), (.int .i64 r.entry.view), (.int .i64 r.entry.client), (.int .i64 r.entry.seq), (.int .i64 r.entry.op.kind), (.int .i64 r.entry.op.h), (.int .i64 r.entry.op.i), (.int .i64 r.entry.op.n), (.int .i64 r.entry.op.k), (.int .i64 r.entry.op.v), (.int .i64 r.entry.op.t), (.slice A2 n2 c2)]) rfl rfl rfl ?_
  intro w9 b10 hb11 hz12 g13 o14
  have H15 := H7.newB g13 o14 (by omega)
  have z16 := g13.size
  refine RL.go rfl rfl rfl (Ex.as (v := (.bool false)) rfl) ?_
  refine RL.nil (thn.n (CW.seq (CW.seq (CW.region ?_))))
  refine RL.go rfl rfl rfl (Ex.ldv rfl (loadCN (cs := [(.int .i64 k.view), (.int .i64 k.normal), (.int .i64 k.base), (.string (tx k.image)), (.slice A n c)]) wh24 (H15.ob (i := 1) rfl).cl)) ?_
  refine RL.go rfl rfl rfl (Ex.ldv rfl (loadCN (cs := [(.int .i64 r.kind), (.int .i64 r.view), (.int .i64 r.from_), (.int .i64 r.number), (.string (tx r.image)), (.int .i64 r.entry.num), (.int .i64 r.entry.view), (.int .i64 r.entry.client), (.int .i64 r.entry.seq), (.int .i64 r.entry.op.kind), (.int .i64 r.entry.op.h), (.int .i64 r.entry.op.i), (.int .i64 r.entry.op.n), (.int .i64 r.entry.op.k), (.int .i64 r.entry.op.v), (.int .i64 r.entry.op.t), (.slice A2 n2 c2)]) wh33 (H15.ob (i := 0) rfl).cl)) ?_
  refine RL.call Tryz.call23 (big15 _ k A n c (by first | assumption | rfl | omega) r A2 n2 c2 (by first | assumption | rfl | omega)) rfl rfl rfl ?_
  rintro _ w17 ⟨rfl, g18⟩
  have H19 := H15.grow g18
  have z20 := g18.size
  rcases hb21 : (bigK k r) with _ | _
  ·obtain ⟨hbg1, hbg2, hbg3, hbg4⟩ := bigK_f hb21
   refine RL.nil (thn.n (CW.condF rfl (CW.skip (thn.n (CW.seq (CW.region ?_))))))
   refine RL.go rfl rfl rfl (Ex.ldv rfl (loadCN (cs := [(.int .i64 k.view), (.int .i64 k.normal), (.int .i64 k.base), (.string (tx k.image)), (.slice A n c)]) wh24 (H19.ob (i := 1) rfl).cl)) ?_
   refine RL.go rfl rfl rfl (Ex.ldv rfl (loadCN (cs := [(.int .i64 r.kind), (.int .i64 r.view), (.int .i64 r.from_), (.int .i64 r.number), (.string (tx r.image)), (.int .i64 r.entry.num), (.int .i64 r.entry.view), (.int .i64 r.entry.client), (.int .i64 r.entry.seq), (.int .i64 r.entry.op.kind), (.int .i64 r.entry.op.h), (.int .i64 r.entry.op.i), (.int .i64 r.entry.op.n), (.int .i64 r.entry.op.k), (.int .i64 r.entry.op.v), (.int .i64 r.entry.op.t), (.slice A2 n2 c2)]) wh33 (H19.ob (i := 0) rfl).cl)) ?_
   refine RL.call Tryz.call40 (Fold_ _ w17.heap.size k A n c ((hr.st0 (H19.fix (i := 2) rfl)).more (by omega)) (by omega) (by first | assumption | rfl | omega | decide +kernel) (by first | assumption | rfl | omega | decide +kernel) (by first | assumption | rfl | omega | decide +kernel) (by first | assumption | rfl | omega | decide +kernel) r A2 n2 c2 ((hr2.st0 (H19.fix (i := 2) rfl)).more (by omega)) (by first | assumption | rfl | omega | decide +kernel) (by first | assumption | rfl | omega | decide +kernel) (by first | assumption | rfl | omega | decide +kernel) (by first | assumption | rfl | omega | decide +kernel)) rfl rfl rfl ?_
   rintro _ w25 ⟨A22, n23, c24, rfl, g26⟩
   have g27 := g26.fix (i := 1) rfl
   have H28 : Sp [RowA 31 11 A22 n23 c24 (ents ((foldK k r).2.ents)), BlkA b10 33 [(.int .i64 r.kind), (.int .i64 r.view), (.int .i64 r.from_), (.int .i64 r.number), (.string (tx r.image)), (.int .i64 r.entry.num), (.int .i64 r.entry.view), (.int .i64 r.entry.client), (.int .i64 r.entry.seq), (.int .i64 r.entry.op.kind), (.int .i64 r.entry.op.h), (.int .i64 r.entry.op.i), (.int .i64 r.entry.op.n), (.int .i64 r.entry.op.k), (.int .i64 r.entry.op.v), (.int .i64 r.entry.op.t), (.slice A2 n2 c2)], BlkA b2 24 [(.int .i64 k.view), (.int .i64 k.normal), (.int .i64 k.base), (.string (tx k.image)), (.slice A n c)], Fix w NoB] w25 := H19.join (m := [RowA 31 11 A22 n23 c24 (ents ((foldK k r).2.ents))]) g26
   have z29 := g27.size
   refine RL.go rfl rfl rfl (Ex.mv (v := (.tuple #[(.agg ([(.int .i64 ((foldK k r).2.view)), (.int .i64 ((foldK k r).2.normal)), (.int .i64 ((foldK k r).2.base)), (.string (tx (foldK k r).2.image)), (.slice A22 n23 c24)]).toArray), (.int .i64 ((foldK k r).1))])) rfl) ?_
   refine RL.go rfl rfl rfl (Ex.ext (vs := [(.agg ([(.int .i64 ((foldK k r).2.view)), (.int .i64 ((foldK k r).2.normal)), (.int .i64 ((foldK k r).2.base)), (.string (tx (foldK k r).2.image)), (.slice A22 n23 c24)]).toArray), (.int .i64 ((foldK k r).1))]) (v := (.agg ([(.int .i64 ((foldK k r).2.view)), (.int .i64 ((foldK k r).2.normal)), (.int .i64 ((foldK k r).2.base)), (.string (tx (foldK k r).2.image)), (.slice A22 n23 c24)]).toArray)) rfl rfl) ?_
   refine RL.go rfl rfl rfl (Ex.ext (vs := [(.agg ([(.int .i64 ((foldK k r).2.view)), (.int .i64 ((foldK k r).2.normal)), (.int .i64 ((foldK k r).2.base)), (.string (tx (foldK k r).2.image)), (.slice A22 n23 c24)]).toArray), (.int .i64 ((foldK k r).1))]) (v := (.int .i64 ((foldK k r).1))) rfl rfl) ?_
   refine RL.al (cs := [(.int .i64 0), (.int .i64 0), (.int .i64 0), (.string (⟨#[]⟩)), (.slice none 0 0)]) Tryz.zeroValue24 rfl rfl rfl ?_
   intro w30 b31 hb32 hz33 g34 o35
   have H36 := H28.newB g34 o35 (by omega)
   have z37 := g34.size
   refine RL.st (vs := [(.int .i64 ((foldK k r).2.view)), (.int .i64 ((foldK k r).2.normal)), (.int .i64 ((foldK k r).2.base)), (.string (tx (foldK k r).2.image)), (.slice A22 n23 c24)]) (cs' := [(.int .i64 ((foldK k r).2.view)), (.int .i64 ((foldK k r).2.normal)), (.int .i64 ((foldK k r).2.base)), (.string (tx (foldK k r).2.image)), (.slice A22 n23 c24)]) Tryz.sizeOf24 (H36.ob (i := 0) rfl) rfl rfl rfl rfl rfl rfl ?_
   intro w38 hz39 g40 o41
   have H42 : Sp [BlkA b31 24 [(.int .i64 ((foldK k r).2.view)), (.int .i64 ((foldK k r).2.normal)), (.int .i64 ((foldK k r).2.base)), (.string (tx (foldK k r).2.image)), (.slice A22 n23 c24)], RowA 31 11 A22 n23 c24 (ents ((foldK k r).2.ents)), BlkA b10 33 [(.int .i64 r.kind), (.int .i64 r.view), (.int .i64 r.from_), (.int .i64 r.number), (.string (tx r.image)), (.int .i64 r.entry.num), (.int .i64 r.entry.view), (.int .i64 r.entry.client), (.int .i64 r.entry.seq), (.int .i64 r.entry.op.kind), (.int .i64 r.entry.op.h), (.int .i64 r.entry.op.i), (.int .i64 r.entry.op.n), (.int .i64 r.entry.op.k), (.int .i64 r.entry.op.v), (.int .i64 r.entry.op.t), (.slice A2 n2 c2)], BlkA b2 24 [(.int .i64 k.view), (.int .i64 k.normal), (.int .i64 k.base), (.string (tx k.image)), (.slice A n c)], Fix w NoB] w38 := H36.setB (i := 0) rfl g40 o41 rfl
   have z43 := g40.size
   refine RL.go rfl rfl rfl (Ex.as (v := (.int .i64 ((foldK k r).1))) rfl) ?_
   refine RL.nil (thn.n (CW.seq (CW.seq (CW.region ?_))))
   refine RL.go rfl rfl rfl (Ex.mv (v := (.int .i64 ((foldK k r).1))) rfl) ?_
   refine RL.br (p := ((foldK k r).1 : Int) ≠ (0 : Int)) rfl rfl rfl (fun r hr => Ex.neD rfl rfl hr) (fun h44 => ?_) (fun h44 => ?_)
   ·skip
    refine RL.nil (thn.n (CW.condT rfl (CW.seq (CW.region ?_))))
    have hbad := foldK_bad h44
    have hfl45 : (foldK k r).2.ents.length ≤ 4000 := foldK_len k r
    have hfi46 : (foldK k r).2.image.length ≤ k.image.length + r.image.length := foldK_img k r
    have hl47 := H42.len (i := 1) rfl
    rw [ents_length] at hl47
    have hc48 := H42.cap (i := 1) rfl
    have hz1 : (foldK k r).2.ents.length = 0 := by rw [hbad]; rfl
    have hz2 : (foldK k r).2.image = [] := by rw [hbad]; rfl
    refine RL.call Tryz.call43 (folds15 _) rfl rfl rfl ?_
    rintro _ w49 ⟨rfl, g50⟩
    have H51 := H42.grow g50
    have z52 := g50.size
    refine RL.go rfl rfl rfl (Ex.mv (v := (.bool true)) rfl) ?_
    refine RL.go rfl rfl rfl (fa24_4 (b := ⟨b31, 4, none⟩) rfl rfl) ?_
    refine RL.go rfl rfl rfl (Ex.ldv rfl (loadC1 lo22 (Ob.cell (v := (.slice A22 n23 c24)) (H51.ob (i := 0) rfl) rfl))) ?_
    refine RL.go rfl rfl rfl (Ex.len Tryz.underlying22 rfl) ?_
    refine RL.go rfl rfl rfl (Ex.eqD (r := true) rfl rfl (decide_eq_true (by omega))) ?_
    refine RL.go rfl rfl rfl (Ex.pkT (v := (.bool true)) rfl rfl) ?_
    refine RL.go rfl rfl rfl (Ex.mv (v := (.bool true)) rfl) ?_
    refine RL.go rfl rfl rfl (fa24_3 (b := ⟨b31, 3, none⟩) rfl rfl) ?_
    refine RL.go rfl rfl rfl (Ex.ldv rfl (loadC1 lo9 (Ob.cell (v := (.string (tx (foldK k r).2.image))) (H51.ob (i := 0) rfl) rfl))) ?_
    refine RL.go rfl rfl rfl (Ex.eqTx (l := ((foldK k r).2.image)) (m := ([])) rfl rfl (decide_eq_true (hz2))) ?_
    refine RL.go rfl rfl rfl (Ex.pkT (v := (.bool true)) rfl rfl) ?_
    refine RL.go rfl rfl rfl (Ex.as (v := (.bool true)) rfl) ?_
    refine RL.nil (thn.n (CW.ret (thn.r ?_)))
    refine finQ.r (v := (.bool true)) (res1 rfl rfl) ?_
    exact ⟨rfl, (H51.fix (i := 4) rfl)⟩
   ·skip
    refine RL.nil (thn.n (CW.condF rfl (CW.skip (thn.n (CW.seq (CW.seq (CW.region ?_)))))))
    have hx0 : (foldK k r).1 = 0 := by have := h44; omega
    obtain ⟨hk1, _, _, hk2⟩ := foldK_ok hx0
    obtain ⟨hv1, hv2⟩ := fold_rises hx0
    have hkt := keptB_t hk2
    have hkt1 := keptB_t hk1
    refine RL.go rfl rfl rfl (Ex.ldv rfl (loadCN (cs := [(.int .i64 k.view), (.int .i64 k.normal), (.int .i64 k.base), (.string (tx k.image)), (.slice A n c)]) wh24 (H42.ob (i := 3) rfl).cl)) ?_
    refine RL.call Tryz.call57 (opCheck_ _ _ _ k (KeptR.of (k := k) (n := n) (c := c) (hr.st0 (H42.fix (i := 4) rfl)) (by show n = (k.ents).length; (try simp only [List.length_append, List.length_cons, List.length_nil, List.length_take, List.length_drop]); all_goals omega) (by omega) (by omega) (by first | assumption | (show List.length _ ≤ _; first | assumption | decide | omega))) (by omega)) rfl rfl rfl ?_
    rintro _ w54 ⟨rfl, g55⟩
    have H56 := H42.grow g55
    have z57 := g55.size
    refine RL.go rfl rfl rfl (Ex.neD (r := false) rfl rfl (decide_eq_false (by rw [hk1]; decide))) ?_
    refine RL.go rfl rfl rfl (Ex.mv (v := (.bool false)) rfl) ?_
    refine RL.go rfl rfl rfl (Ex.ldv rfl (loadCN (cs := [(.int .i64 ((foldK k r).2.view)), (.int .i64 ((foldK k r).2.normal)), (.int .i64 ((foldK k r).2.base)), (.string (tx (foldK k r).2.image)), (.slice A22 n23 c24)]) wh24 (H56.ob (i := 0) rfl).cl)) ?_
    have hfl58 : (foldK k r).2.ents.length ≤ 4000 := foldK_len k r
    have hfi59 : (foldK k r).2.image.length ≤ k.image.length + r.image.length := foldK_img k r
    have hl60 := H56.len (i := 1) rfl
    rw [ents_length] at hl60
    have hc61 := H56.cap (i := 1) rfl
    refine RL.call Tryz.call57 (opCheck_ _ _ _ (foldK k r).2 (KeptR.of (k := (foldK k r).2) (n := n23) (c := c24) (H56.rowrd (i := 1) rfl) (by show n23 = ((foldK k r).2.ents).length; (try simp only [List.length_append, List.length_cons, List.length_nil, List.length_take, List.length_drop]); all_goals omega) (by omega) (by omega) (by first | assumption | (show List.length _ ≤ _; first | assumption | decide | omega))) (Nat.le_refl _)) rfl rfl rfl ?_
    rintro _ w62 ⟨rfl, g63⟩
    have H65 := H56.grow g63
    have z66 := g63.size
    refine RL.go rfl rfl rfl (Ex.neD (r := false) rfl rfl (decide_eq_false (by rw [hk2]; decide))) ?_
    refine RL.go rfl rfl rfl (Ex.pkF (v := (.bool false)) rfl rfl) ?_
    refine RL.go rfl rfl rfl (Ex.mv (v := (.bool false)) rfl) ?_
    refine RL.go rfl rfl rfl (fa24_0 (b := ⟨b31, 0, none⟩) rfl rfl) ?_
    refine RL.go rfl rfl rfl (Ex.ldv rfl (loadC1 lo3 (Ob.cell (v := (.int .i64 ((foldK k r).2.view))) (H65.ob (i := 0) rfl) rfl))) ?_
    refine RL.go rfl rfl rfl (fa24_0 (b := ⟨b2, 0, none⟩) rfl rfl) ?_
    refine RL.go rfl rfl rfl (Ex.ldv rfl (loadC1 lo3 (Ob.cell (v := (.int .i64 k.view)) (H65.ob (i := 3) rfl) rfl))) ?_
    refine RL.go rfl rfl rfl (Ex.lt (r := false) rfl rfl (decide_eq_false (by omega))) ?_
    refine RL.go rfl rfl rfl (Ex.pkF (v := (.bool false)) rfl rfl) ?_
    refine RL.go rfl rfl rfl (Ex.mv (v := (.bool false)) rfl) ?_
    refine RL.go rfl rfl rfl (fa24_1 (b := ⟨b31, 1, none⟩) rfl rfl) ?_
    refine RL.go rfl rfl rfl (Ex.ldv rfl (loadC1 lo3 (Ob.cell (v := (.int .i64 ((foldK k r).2.normal))) (H65.ob (i := 0) rfl) rfl))) ?_
    refine RL.go rfl rfl rfl (fa24_1 (b := ⟨b2, 1, none⟩) rfl rfl) ?_
    refine RL.go rfl rfl rfl (Ex.ldv rfl (loadC1 lo3 (Ob.cell (v := (.int .i64 k.normal)) (H65.ob (i := 3) rfl) rfl))) ?_
    refine RL.go rfl rfl rfl (Ex.lt (r := false) rfl rfl (decide_eq_false (by omega))) ?_
    refine RL.go rfl rfl rfl (Ex.pkF (v := (.bool false)) rfl rfl) ?_
    refine RL.nil (thn.n (CW.condF rfl (CW.skip (thn.n (CW.seq (CW.region ?_))))))
    refine RL.go rfl rfl rfl (Ex.ldv rfl (loadCN (cs := [(.int .i64 k.view), (.int .i64 k.normal), (.int .i64 k.base), (.string (tx k.image)), (.slice A n c)]) wh24 (H65.ob (i := 3) rfl).cl)) ?_
    refine RL.call Tryz.call62 (Last_ _ _ _ k (KeptR.of (k := k) (n := n) (c := c) (hr.st0 (H65.fix (i := 4) rfl)) (by show n = (k.ents).length; (try simp only [List.length_append, List.length_cons, List.length_nil, List.length_take, List.length_drop]); all_goals omega) (by omega) (by omega) (by first | assumption | (show List.length _ ≤ _; first | assumption | decide | omega))) (by omega)) rfl rfl rfl ?_
    rintro _ w67 ⟨rfl, g68⟩
    have H69 := H65.grow g68
    have z70 := g68.size
    refine RL.go rfl rfl rfl (Ex.as (v := (.int .i64 (lastOf k))) rfl) ?_
    refine RL.nil (thn.n (CW.seq (CW.seq (CW.region ?_))))
    refine RL.go rfl rfl rfl (fa33_0 (b := ⟨b10, 0, none⟩) rfl rfl) ?_
    refine RL.go rfl rfl rfl (Ex.ldv rfl (loadC1 lo26 (Ob.cell (v := (.int .i64 r.kind)) (H69.ob (i := 2) rfl) rfl))) ?_
    refine RL.br (p := (r.kind : Int) = (3 : Int)) rfl rfl rfl (fun r hr => Ex.eqD rfl rfl hr) (fun h71 => ?_) (fun h71 => ?_)
    ·skip
     refine RL.nil (thn.n (CW.condT rfl (CW.region ?_)))
     refine RL.go rfl rfl rfl (fa33_2 (b := ⟨b10, 2, none⟩) rfl rfl) ?_
     refine RL.go rfl rfl rfl (Ex.ldv rfl (loadC1 lo3 (Ob.cell (v := (.int .i64 r.from_)) (H69.ob (i := 2) rfl) rfl))) ?_
     refine RL.go rfl rfl rfl (Ex.as (v := (.int .i64 r.from_)) rfl) ?_
     refine RL.nil (thn.n (CW.seq (CW.seq (CW.region ?_))))
     refine RL.go rfl rfl rfl (fa33_0 (b := ⟨b10, 0, none⟩) rfl rfl) ?_
     refine RL.go rfl rfl rfl (Ex.ldv rfl (loadC1 lo26 (Ob.cell (v := (.int .i64 r.kind)) (H69.ob (i := 2) rfl) rfl))) ?_
     refine RL.go rfl rfl rfl (Ex.eqD (r := false) rfl rfl (decide_eq_false (by omega))) ?_
     refine RL.nil (thn.n (CW.condF rfl (CW.skip (thn.n (CW.seq (CW.region ?_))))))
     refine RL.go rfl rfl rfl (Ex.ldv rfl (loadCN (cs := [(.int .i64 k.view), (.int .i64 k.normal), (.int .i64 k.base), (.string (tx k.image)), (.slice A n c)]) wh24 (H69.ob (i := 3) rfl).cl)) ?_
     refine RL.go rfl rfl rfl (fa24_2 (b := ⟨b31, 2, none⟩) rfl rfl) ?_
     refine RL.go rfl rfl rfl (Ex.ldv rfl (loadC1 lo3 (Ob.cell (v := (.int .i64 ((foldK k r).2.base))) (H69.ob (i := 0) rfl) rfl))) ?_
     refine RL.call Tryz.call58 (above_ _ _ k A n c (hr.st0 (H69.fix (i := 4) rfl)) (by omega) (by first | assumption | rfl | omega | decide +kernel) (by first | assumption | rfl | omega | decide +kernel) (by first | assumption | rfl | omega | decide +kernel) (by first | assumption | rfl | omega | decide +kernel) ((foldK k r).2.base) 4000 (by omega) (by omega) (by omega)) rfl rfl rfl ?_
     rintro _ w76 ⟨A72, n73, c74, rfl, g77⟩
     have g78 := g77.fix (i := 1) rfl
     have H79 : Sp [RowA 31 11 A72 n73 c74 (ents (aboveK k ((foldK k r).2.base) 4000)), BlkA b31 24 [(.int .i64 ((foldK k r).2.view)), (.int .i64 ((foldK k r).2.normal)), (.int .i64 ((foldK k r).2.base)), (.string (tx (foldK k r).2.image)), (.slice A22 n23 c24)], RowA 31 11 A22 n23 c24 (ents ((foldK k r).2.ents)), BlkA b10 33 [(.int .i64 r.kind), (.int .i64 r.view), (.int .i64 r.from_), (.int .i64 r.number), (.string (tx r.image)), (.int .i64 r.entry.num), (.int .i64 r.entry.view), (.int .i64 r.entry.client), (.int .i64 r.entry.seq), (.int .i64 r.entry.op.kind), (.int .i64 r.entry.op.h), (.int .i64 r.entry.op.i), (.int .i64 r.entry.op.n), (.int .i64 r.entry.op.k), (.int .i64 r.entry.op.v), (.int .i64 r.entry.op.t), (.slice A2 n2 c2)], BlkA b2 24 [(.int .i64 k.view), (.int .i64 k.normal), (.int .i64 k.base), (.string (tx k.image)), (.slice A n c)], Fix w NoB] w76 := H69.join (m := [RowA 31 11 A72 n73 c74 (ents (aboveK k ((foldK k r).2.base) 4000))]) g77
     have z80 := g78.size
     have hal75 := aboveK_len k ((foldK k r).2.base) 4000
     refine RL.go rfl rfl rfl (Ex.as (v := (.slice A72 n73 c74)) rfl) ?_
     refine RL.nil (thn.n (CW.seq (CW.region ?_)))
     refine RL.go rfl rfl rfl (Ex.ldv rfl (loadCN (cs := [(.int .i64 ((foldK k r).2.view)), (.int .i64 ((foldK k r).2.normal)), (.int .i64 ((foldK k r).2.base)), (.string (tx (foldK k r).2.image)), (.slice A22 n23 c24)]) wh24 (H79.ob (i := 1) rfl).cl)) ?_
     refine RL.go rfl rfl rfl (fa24_2 (b := ⟨b31, 2, none⟩) rfl rfl) ?_
     refine RL.go rfl rfl rfl (Ex.ldv rfl (loadC1 lo3 (Ob.cell (v := (.int .i64 ((foldK k r).2.base))) (H79.ob (i := 1) rfl) rfl))) ?_
     have hfl81 : (foldK k r).2.ents.length ≤ 4000 := foldK_len k r
     have hfi82 : (foldK k r).2.image.length ≤ k.image.length + r.image.length := foldK_img k r
     have hl83 := H79.len (i := 2) rfl
     rw [ents_length] at hl83
     have hc84 := H79.cap (i := 2) rfl
     refine RL.call Tryz.call58 (above_ _ _ (foldK k r).2 A22 n23 c24 (H79.rowrd (i := 2) rfl) (Nat.le_refl _) (by first | assumption | rfl | omega | decide +kernel) (by first | assumption | rfl | omega | decide +kernel) (by first | assumption | rfl | omega | decide +kernel) (by first | assumption | rfl | omega | decide +kernel) ((foldK k r).2.base) 4000 (by omega) (by omega) (by omega)) rfl rfl rfl ?_
     rintro _ w89 ⟨A85, n86, c87, rfl, g90⟩
     have g91 := g90.fix (i := 1) rfl
     have H92 : Sp [RowA 31 11 A85 n86 c87 (ents ((aboveK (foldK k r).2 ((foldK k r).2.base) 4000))), RowA 31 11 A72 n73 c74 (ents (aboveK k ((foldK k r).2.base) 4000)), BlkA b31 24 [(.int .i64 ((foldK k r).2.view)), (.int .i64 ((foldK k r).2.normal)), (.int .i64 ((foldK k r).2.base)), (.string (tx (foldK k r).2.image)), (.slice A22 n23 c24)], RowA 31 11 A22 n23 c24 (ents ((foldK k r).2.ents)), BlkA b10 33 [(.int .i64 r.kind), (.int .i64 r.view), (.int .i64 r.from_), (.int .i64 r.number), (.string (tx r.image)), (.int .i64 r.entry.num), (.int .i64 r.entry.view), (.int .i64 r.entry.client), (.int .i64 r.entry.seq), (.int .i64 r.entry.op.kind), (.int .i64 r.entry.op.h), (.int .i64 r.entry.op.i), (.int .i64 r.entry.op.n), (.int .i64 r.entry.op.k), (.int .i64 r.entry.op.v), (.int .i64 r.entry.op.t), (.slice A2 n2 c2)], BlkA b2 24 [(.int .i64 k.view), (.int .i64 k.normal), (.int .i64 k.base), (.string (tx k.image)), (.slice A n c)], Fix w NoB] w89 := H79.join (m := [RowA 31 11 A85 n86 c87 (ents ((aboveK (foldK k r).2 ((foldK k r).2.base) 4000)))]) g90
     have z93 := g91.size
     have hal88 := aboveK_len (foldK k r).2 ((foldK k r).2.base) 4000
     refine RL.go rfl rfl rfl (Ex.as (v := (.slice A85 n86 c87)) rfl) ?_
     refine RL.nil (thn.n (CW.seq (CW.seq (CW.region ?_))))
     have hsk : stayK k r = r.from_ := by unfold stayK; first | rw [if_pos (by omega)] | (rw [if_neg (by omega), if_pos (by omega)]) | (rw [if_neg (by omega), if_neg (by omega)])
     refine RL.go rfl rfl rfl (Ex.as (v := (.int .i64 0)) rfl) ?_
     refine RL.nil (thn.n (CW.block ?_))
     have hl94 := H92.len (i := 1) rfl
     rw [ents_length] at hl94
     refine CW.loop (fun t => Nat.beq t 4 || Nat.beq t 10 || (Nat.ble 74 t && Nat.ble t 103)) (fun nL ρ wl => ∃ (i : Nat), ρ 10 = (.int .i64 (i : Int)) ∧ nL = n73 - i ∧ Sp [RowA 31 11 A85 n86 c87 (ents ((aboveK (foldK k r).2 ((foldK k r).2.base) 4000))), RowA 31 11 A72 n73 c74 (ents (aboveK k ((foldK k r).2.base) 4000)), BlkA b31 24 [(.int .i64 ((foldK k r).2.view)), (.int .i64 ((foldK k r).2.normal)), (.int .i64 ((foldK k r).2.base)), (.string (tx (foldK k r).2.image)), (.slice A22 n23 c24)], RowA 31 11 A22 n23 c24 (ents ((foldK k r).2.ents)), BlkA b10 33 [(.int .i64 r.kind), (.int .i64 r.view), (.int .i64 r.from_), (.int .i64 r.number), (.string (tx r.image)), (.int .i64 r.entry.num), (.int .i64 r.entry.view), (.int .i64 r.entry.client), (.int .i64 r.entry.seq), (.int .i64 r.entry.op.kind), (.int .i64 r.entry.op.h), (.int .i64 r.entry.op.i), (.int .i64 r.entry.op.n), (.int .i64 r.entry.op.k), (.int .i64 r.entry.op.v), (.int .i64 r.entry.op.t), (.slice A2 n2 c2)], BlkA b2 24 [(.int .i64 k.view), (.int .i64 k.normal), (.int .i64 k.base), (.string (tx k.image)), (.slice A n c)], Fix w NoB] wl ∧ i ≤ n73) (n73) ?aa0 ?bb0
     case aa0 =>
      exact ⟨0, rfl, rfl, H92, Nat.zero_le _⟩
     case bb0 =>
      rintro n96 ρ0 w95 ho97 ⟨i, hs0_10, hn0, H98, hi⟩
      obtain ⟨j0, rfl⟩ := ho97.shape1 hs0_10
      clear ho97 hs0_10
      subst hn0
      have z99 := (H98.fix (i := 6) rfl).size
      refine CW.seq (CW.seq ?_)
      refine CW.region ?_
      refine RL.go rfl rfl rfl (Ex.mv (v := (.int .i64 (i : Int))) rfl) ?_
      refine RL.go rfl rfl rfl (Ex.mv (v := (.slice A72 n73 c74)) rfl) ?_
      refine RL.go rfl rfl rfl (Ex.len Tryz.underlying22 rfl) ?_
      refine RL.br (p := ((i : Int) : Int) < ((n73 : Nat) : Int)) rfl rfl rfl (fun r hr => Ex.lt rfl rfl hr) (fun h100 => ?_) (fun h100 => ?_)
      ·skip
       refine RL.go rfl rfl rfl (Ex.mv (v := (.bool true)) rfl) ?_
       refine RL.go rfl rfl rfl (Ex.mv (v := (.slice A72 n73 c74)) rfl) ?_
       refine RL.go rfl rfl rfl (Ex.mv (v := (.int .i64 (i : Int))) rfl) ?_
       obtain ⟨e101, he102⟩ : ∃ e, ((aboveK k ((foldK k r).2.base) 4000))[i]? = some e := ⟨_, List.getElem?_eq_getElem (by omega)⟩
       obtain ⟨ad103, hA104⟩ := Rd.sm (H98.rowrd (i := 1) rfl) (ents_get he102)
       have hl105 := Eng.lt_len (ents_get he102)
       refine RL.go rfl rfl rfl (Ex.ix (b := (ad103.add (i * 11))) (i := i) Tryz.underlying22 Tryz.sizeOf31 (by rw [← hA104]; rfl) rfl (by omega) (by omega) rfl) ?_
       refine RL.go rfl rfl rfl (fa31_0 (b := ((ad103.add (i * 11)))) rfl rfl) ?_
       refine RL.go rfl rfl rfl (Ex.ldv rfl (loadC1 lo3 (Cl.at_ (v := (.int .i64 e101.num)) (Rd.cl (H98.rowrd (i := 1) rfl) hA104 (ents_get he102)) (i := 0) rfl))) ?_
       refine RL.go rfl rfl rfl (Ex.mv (v := (.int .i64 r.from_)) rfl) ?_
       refine RL.br (p := (e101.num : Int) ≤ (r.from_ : Int)) rfl rfl rfl (fun r hr => Ex.le rfl rfl hr) (fun h106 => ?_) (fun h106 => ?_)
       ·skip
        refine RL.go rfl rfl rfl (Ex.pkT (v := (.bool true)) rfl rfl) ?_
        refine RL.nil (thn.n (CW.condT rfl (CW.skip (thn.n (CW.seq (CW.block (CW.seq ?_)))))))
        refine CW.quiet (fun wq => World.grownBy w95 wq none) Tryz.mixed (by kernel_rfl) ⟨rfl, rfl, rfl, Nat.le_refl _, fun _ _ _ => rfl⟩ ?_
        have hst := fold_stay hx0 he102 (by rw [hsk]; exact h106)
        have hlt9 := lt_len hst
        have hl107 := H98.len (i := 0) rfl
        rw [ents_length] at hl107
        refine QL.go rfl rfl rfl (fun wq gq => Ex.mv (v := (.int .i64 (i : Int))) rfl) ?_
        refine QL.go rfl rfl rfl (fun wq gq => Ex.mv (v := (.slice A85 n86 c87)) rfl) ?_
        refine QL.go rfl rfl rfl (fun wq gq => Ex.len Tryz.underlying22 rfl) ?_
        refine QL.go rfl rfl rfl (fun wq gq => Ex.ge (r := false) rfl rfl (decide_eq_false (by omega))) ?_
        refine QL.go rfl rfl rfl (fun wq gq => Ex.mv (v := (.bool false)) rfl) ?_
        refine QL.go rfl rfl rfl (fun wq gq => Ex.mv (v := (.slice A72 n73 c74)) rfl) ?_
        refine QL.go rfl rfl rfl (fun wq gq => Ex.mv (v := (.int .i64 (i : Int))) rfl) ?_
        obtain ⟨e108, he109⟩ : ∃ e, ((aboveK k ((foldK k r).2.base) 4000))[i]? = some e := ⟨_, List.getElem?_eq_getElem (by omega)⟩
        obtain ⟨ad110, hA111⟩ := Rd.sm (H98.rowrd (i := 1) rfl) (ents_get he109)
        have hl112 := Eng.lt_len (ents_get he109)
        refine QL.go rfl rfl rfl (fun wq gq => Ex.ix (b := (ad110.add (i * 11))) (i := i) Tryz.underlying22 Tryz.sizeOf31 (by rw [← hA111]; rfl) rfl (by omega) (by omega) rfl) ?_
        refine QL.go rfl rfl rfl (fun wq gq => Ex.ldv rfl (loadCN (cs := e108.cells) wh31 (Rd.cl ((H98.grow gq).rowrd (i := 1) rfl) hA111 (ents_get he109)))) ?_
        refine QL.go rfl rfl rfl (fun wq gq => Ex.mv (v := (.slice A85 n86 c87)) rfl) ?_
        refine QL.go rfl rfl rfl (fun wq gq => Ex.mv (v := (.int .i64 (i : Int))) rfl) ?_
        obtain ⟨e113, he114⟩ : ∃ e, ((aboveK (foldK k r).2 ((foldK k r).2.base) 4000))[i]? = some e := ⟨_, List.getElem?_eq_getElem (by omega)⟩
        obtain ⟨ad115, hA116⟩ := Rd.sm (H98.rowrd (i := 0) rfl) (ents_get he114)
        have hl117 := Eng.lt_len (ents_get he114)
        refine QL.go rfl rfl rfl (fun wq gq => Ex.ix (b := (ad115.add (i * 11))) (i := i) Tryz.underlying22 Tryz.sizeOf31 (by rw [← hA116]; rfl) rfl (by omega) (by omega) rfl) ?_
        refine QL.go rfl rfl rfl (fun wq gq => Ex.ldv rfl (loadCN (cs := e113.cells) wh31 (Rd.cl ((H98.grow gq).rowrd (i := 0) rfl) hA116 (ents_get he114)))) ?_
        rw [hst] at he114
        rw [he102] at he109
        have h12 : e108 = e113 := by injection he109 with q1; injection he114 with q2; rw [← q1, ← q2]
        refine QL.go rfl rfl rfl (fun wq gq => Ex.neS (r := false) (xs := e108.cells) (ys := e113.cells) Tryz.eqGuardType31 (eqT31 (r := true) (decide_eq_true (by subst h12; exact ⟨rfl, rfl, rfl, rfl, rfl, rfl, rfl, rfl, rfl, rfl, rfl⟩))) rfl rfl) ?_
        refine QL.go rfl rfl rfl (fun wq gq => Ex.pkF (v := (.bool false)) rfl rfl) ?_
        refine QL.nil ?_
        intro w118 g119
        have H120 := H98.grow g119
        have z121 := g119.size
        refine thn.n (CW.condF rfl ?_)
        refine CW.skip (inB.n (thn.n (CW.region ?_)))
        refine RL.go rfl rfl rfl (Ex.mv (v := (.int .i64 (i : Int))) rfl) ?_
        refine RL.go rfl rfl rfl (Ex.add (r := (i : Int) + 1) rfl rfl (w64 (by omega) (by omega))) ?_
        refine RL.go rfl rfl rfl (Ex.as (v := (.int .i64 ((i : Int) + 1))) rfl) ?_
        refine RL.nil (thn.n ?_)
        refine ⟨(by repeat (first | exact Out.mix _ _ | exact Out.refl _ _ | refine Out.up ?_ rfl _)), _, ?_, i + 1, rfl, rfl, H120, by omega⟩
        omega
       ·skip
        refine RL.go rfl rfl rfl (Ex.pkT (v := (.bool false)) rfl rfl) ?_
        refine RL.nil (thn.n (CW.condF rfl (CW.exit (thn.x (thn.x (inB.hit (thn.n (CW.seq (CW.region ?_)))))))))
        refine RL.call Tryz.call43 (folds15 _) rfl rfl rfl ?_
        rintro _ w122 ⟨rfl, g123⟩
        have H124 := H98.grow g123
        have z125 := g123.size
        refine RL.go rfl rfl rfl (Ex.as (v := (.bool true)) rfl) ?_
        refine RL.nil (thn.n (CW.ret ?_))
        refine finQ.r (v := (.bool true)) (res1 rfl rfl) ?_
        exact ⟨rfl, (H124.fix (i := 6) rfl)⟩
      ·skip
       refine RL.go rfl rfl rfl (Ex.mv (v := (.bool false)) rfl) ?_
       refine RL.out rfl rfl rfl ?_
       refine RL.out rfl rfl rfl ?_
       refine RL.out rfl rfl rfl ?_
       refine RL.out rfl rfl rfl ?_
       refine RL.out rfl rfl rfl ?_
       refine RL.out rfl rfl rfl ?_
       refine RL.out rfl rfl rfl ?_
       refine RL.go rfl rfl rfl (Ex.pkF (v := (.bool false)) rfl rfl) ?_
       refine RL.nil (thn.n (CW.condF rfl (CW.exit (thn.x (thn.x (inB.hit (thn.n (CW.seq (CW.region ?_)))))))))
       refine RL.call Tryz.call43 (folds15 _) rfl rfl rfl ?_
       rintro _ w126 ⟨rfl, g127⟩
       have H128 := H98.grow g127
       have z129 := g127.size
       refine RL.go rfl rfl rfl (Ex.as (v := (.bool true)) rfl) ?_
       refine RL.nil (thn.n (CW.ret ?_))
       refine finQ.r (v := (.bool true)) (res1 rfl rfl) ?_
       exact ⟨rfl, (H128.fix (i := 6) rfl)⟩
    ·skip
     refine RL.nil (thn.n (CW.condF rfl (CW.skip (thn.n (CW.seq (CW.seq (CW.region ?_)))))))
     refine RL.go rfl rfl rfl (fa33_0 (b := ⟨b10, 0, none⟩) rfl rfl) ?_
     refine RL.go rfl rfl rfl (Ex.ldv rfl (loadC1 lo26 (Ob.cell (v := (.int .i64 r.kind)) (H69.ob (i := 2) rfl) rfl))) ?_
     refine RL.br (p := (r.kind : Int) = (5 : Int)) rfl rfl rfl (fun r hr => Ex.eqD rfl rfl hr) (fun h130 => ?_) (fun h130 => ?_)
     ·skip
      refine RL.nil (thn.n (CW.condT rfl (CW.region ?_)))
      refine RL.go rfl rfl rfl (Ex.as (v := (.int .i64 (-1))) rfl) ?_
      refine RL.nil (thn.n (CW.seq (CW.region ?_)))
      refine RL.go rfl rfl rfl (Ex.ldv rfl (loadCN (cs := [(.int .i64 k.view), (.int .i64 k.normal), (.int .i64 k.base), (.string (tx k.image)), (.slice A n c)]) wh24 (H69.ob (i := 3) rfl).cl)) ?_
      refine RL.go rfl rfl rfl (fa24_2 (b := ⟨b31, 2, none⟩) rfl rfl) ?_
      refine RL.go rfl rfl rfl (Ex.ldv rfl (loadC1 lo3 (Ob.cell (v := (.int .i64 ((foldK k r).2.base))) (H69.ob (i := 0) rfl) rfl))) ?_
      refine RL.call Tryz.call58 (above_ _ _ k A n c (hr.st0 (H69.fix (i := 4) rfl)) (by omega) (by first | assumption | rfl | omega | decide +kernel) (by first | assumption | rfl | omega | decide +kernel) (by first | assumption | rfl | omega | decide +kernel) (by first | assumption | rfl | omega | decide +kernel) ((foldK k r).2.base) 4000 (by omega) (by omega) (by omega)) rfl rfl rfl ?_
      rintro _ w135 ⟨A131, n132, c133, rfl, g136⟩
      have g137 := g136.fix (i := 1) rfl
      have H138 : Sp [RowA 31 11 A131 n132 c133 (ents (aboveK k ((foldK k r).2.base) 4000)), BlkA b31 24 [(.int .i64 ((foldK k r).2.view)), (.int .i64 ((foldK k r).2.normal)), (.int .i64 ((foldK k r).2.base)), (.string (tx (foldK k r).2.image)), (.slice A22 n23 c24)], RowA 31 11 A22 n23 c24 (ents ((foldK k r).2.ents)), BlkA b10 33 [(.int .i64 r.kind), (.int .i64 r.view), (.int .i64 r.from_), (.int .i64 r.number), (.string (tx r.image)), (.int .i64 r.entry.num), (.int .i64 r.entry.view), (.int .i64 r.entry.client), (.int .i64 r.entry.seq), (.int .i64 r.entry.op.kind), (.int .i64 r.entry.op.h), (.int .i64 r.entry.op.i), (.int .i64 r.entry.op.n), (.int .i64 r.entry.op.k), (.int .i64 r.entry.op.v), (.int .i64 r.entry.op.t), (.slice A2 n2 c2)], BlkA b2 24 [(.int .i64 k.view), (.int .i64 k.normal), (.int .i64 k.base), (.string (tx k.image)), (.slice A n c)], Fix w NoB] w135 := H69.join (m := [RowA 31 11 A131 n132 c133 (ents (aboveK k ((foldK k r).2.base) 4000))]) g136
      have z139 := g137.size
      have hal134 := aboveK_len k ((foldK k r).2.base) 4000
      refine RL.go rfl rfl rfl (Ex.as (v := (.slice A131 n132 c133)) rfl) ?_
      refine RL.nil (thn.n (CW.seq (CW.region ?_)))
      refine RL.go rfl rfl rfl (Ex.ldv rfl (loadCN (cs := [(.int .i64 ((foldK k r).2.view)), (.int .i64 ((foldK k r).2.normal)), (.int .i64 ((foldK k r).2.base)), (.string (tx (foldK k r).2.image)), (.slice A22 n23 c24)]) wh24 (H138.ob (i := 1) rfl).cl)) ?_
      refine RL.go rfl rfl rfl (fa24_2 (b := ⟨b31, 2, none⟩) rfl rfl) ?_
      refine RL.go rfl rfl rfl (Ex.ldv rfl (loadC1 lo3 (Ob.cell (v := (.int .i64 ((foldK k r).2.base))) (H138.ob (i := 1) rfl) rfl))) ?_
      have hfl140 : (foldK k r).2.ents.length ≤ 4000 := foldK_len k r
      have hfi141 : (foldK k r).2.image.length ≤ k.image.length + r.image.length := foldK_img k r
      have hl142 := H138.len (i := 2) rfl
      rw [ents_length] at hl142
      have hc143 := H138.cap (i := 2) rfl
      refine RL.call Tryz.call58 (above_ _ _ (foldK k r).2 A22 n23 c24 (H138.rowrd (i := 2) rfl) (Nat.le_refl _) (by first | assumption | rfl | omega | decide +kernel) (by first | assumption | rfl | omega | decide +kernel) (by first | assumption | rfl | omega | decide +kernel) (by first | assumption | rfl | omega | decide +kernel) ((foldK k r).2.base) 4000 (by omega) (by omega) (by omega)) rfl rfl rfl ?_
      rintro _ w148 ⟨A144, n145, c146, rfl, g149⟩
      have g150 := g149.fix (i := 1) rfl
      have H151 : Sp [RowA 31 11 A144 n145 c146 (ents ((aboveK (foldK k r).2 ((foldK k r).2.base) 4000))), RowA 31 11 A131 n132 c133 (ents (aboveK k ((foldK k r).2.base) 4000)), BlkA b31 24 [(.int .i64 ((foldK k r).2.view)), (.int .i64 ((foldK k r).2.normal)), (.int .i64 ((foldK k r).2.base)), (.string (tx (foldK k r).2.image)), (.slice A22 n23 c24)], RowA 31 11 A22 n23 c24 (ents ((foldK k r).2.ents)), BlkA b10 33 [(.int .i64 r.kind), (.int .i64 r.view), (.int .i64 r.from_), (.int .i64 r.number), (.string (tx r.image)), (.int .i64 r.entry.num), (.int .i64 r.entry.view), (.int .i64 r.entry.client), (.int .i64 r.entry.seq), (.int .i64 r.entry.op.kind), (.int .i64 r.entry.op.h), (.int .i64 r.entry.op.i), (.int .i64 r.entry.op.n), (.int .i64 r.entry.op.k), (.int .i64 r.entry.op.v), (.int .i64 r.entry.op.t), (.slice A2 n2 c2)], BlkA b2 24 [(.int .i64 k.view), (.int .i64 k.normal), (.int .i64 k.base), (.string (tx k.image)), (.slice A n c)], Fix w NoB] w148 := H138.join (m := [RowA 31 11 A144 n145 c146 (ents ((aboveK (foldK k r).2 ((foldK k r).2.base) 4000)))]) g149
      have z152 := g150.size
      have hal147 := aboveK_len (foldK k r).2 ((foldK k r).2.base) 4000
      refine RL.go rfl rfl rfl (Ex.as (v := (.slice A144 n145 c146)) rfl) ?_
      refine RL.nil (thn.n (CW.seq (CW.seq (CW.region ?_))))
      have hsk : stayK k r = -1 := by unfold stayK; first | rw [if_pos (by omega)] | (rw [if_neg (by omega), if_pos (by omega)]) | (rw [if_neg (by omega), if_neg (by omega)])
      refine RL.go rfl rfl rfl (Ex.as (v := (.int .i64 0)) rfl) ?_
      refine RL.nil (thn.n (CW.block ?_))
      have hl153 := H151.len (i := 1) rfl
      rw [ents_length] at hl153
      refine CW.loop (fun t => Nat.beq t 4 || Nat.beq t 10 || (Nat.ble 74 t && Nat.ble t 103)) (fun nL ρ wl => ∃ (i : Nat), ρ 10 = (.int .i64 (i : Int)) ∧ nL = n132 - i ∧ Sp [RowA 31 11 A144 n145 c146 (ents ((aboveK (foldK k r).2 ((foldK k r).2.base) 4000))), RowA 31 11 A131 n132 c133 (ents (aboveK k ((foldK k r).2.base) 4000)), BlkA b31 24 [(.int .i64 ((foldK k r).2.view)), (.int .i64 ((foldK k r).2.normal)), (.int .i64 ((foldK k r).2.base)), (.string (tx (foldK k r).2.image)), (.slice A22 n23 c24)], RowA 31 11 A22 n23 c24 (ents ((foldK k r).2.ents)), BlkA b10 33 [(.int .i64 r.kind), (.int .i64 r.view), (.int .i64 r.from_), (.int .i64 r.number), (.string (tx r.image)), (.int .i64 r.entry.num), (.int .i64 r.entry.view), (.int .i64 r.entry.client), (.int .i64 r.entry.seq), (.int .i64 r.entry.op.kind), (.int .i64 r.entry.op.h), (.int .i64 r.entry.op.i), (.int .i64 r.entry.op.n), (.int .i64 r.entry.op.k), (.int .i64 r.entry.op.v), (.int .i64 r.entry.op.t), (.slice A2 n2 c2)], BlkA b2 24 [(.int .i64 k.view), (.int .i64 k.normal), (.int .i64 k.base), (.string (tx k.image)), (.slice A n c)], Fix w NoB] wl ∧ i ≤ n132) (n132) ?aa0 ?bb0
      case aa0 =>
       exact ⟨0, rfl, rfl, H151, Nat.zero_le _⟩
      case bb0 =>
       rintro n155 ρ0 w154 ho156 ⟨i, hs0_10, hn0, H157, hi⟩
       obtain ⟨j0, rfl⟩ := ho156.shape1 hs0_10
       clear ho156 hs0_10
       subst hn0
       have z158 := (H157.fix (i := 6) rfl).size
       refine CW.seq (CW.seq ?_)
       refine CW.region ?_
       refine RL.go rfl rfl rfl (Ex.mv (v := (.int .i64 (i : Int))) rfl) ?_
       refine RL.go rfl rfl rfl (Ex.mv (v := (.slice A131 n132 c133)) rfl) ?_
       refine RL.go rfl rfl rfl (Ex.len Tryz.underlying22 rfl) ?_
       refine RL.br (p := ((i : Int) : Int) < ((n132 : Nat) : Int)) rfl rfl rfl (fun r hr => Ex.lt rfl rfl hr) (fun h159 => ?_) (fun h159 => ?_)
       ·skip
        refine RL.go rfl rfl rfl (Ex.mv (v := (.bool true)) rfl) ?_
        refine RL.go rfl rfl rfl (Ex.mv (v := (.slice A131 n132 c133)) rfl) ?_
        refine RL.go rfl rfl rfl (Ex.mv (v := (.int .i64 (i : Int))) rfl) ?_
        obtain ⟨e160, he161⟩ : ∃ e, ((aboveK k ((foldK k r).2.base) 4000))[i]? = some e := ⟨_, List.getElem?_eq_getElem (by omega)⟩
        obtain ⟨ad162, hA163⟩ := Rd.sm (H157.rowrd (i := 1) rfl) (ents_get he161)
        have hl164 := Eng.lt_len (ents_get he161)
        refine RL.go rfl rfl rfl (Ex.ix (b := (ad162.add (i * 11))) (i := i) Tryz.underlying22 Tryz.sizeOf31 (by rw [← hA163]; rfl) rfl (by omega) (by omega) rfl) ?_
        refine RL.go rfl rfl rfl (fa31_0 (b := ((ad162.add (i * 11)))) rfl rfl) ?_
        refine RL.go rfl rfl rfl (Ex.ldv rfl (loadC1 lo3 (Cl.at_ (v := (.int .i64 e160.num)) (Rd.cl (H157.rowrd (i := 1) rfl) hA163 (ents_get he161)) (i := 0) rfl))) ?_
        refine RL.go rfl rfl rfl (Ex.mv (v := (.int .i64 (-1))) rfl) ?_
        refine RL.br (p := (e160.num : Int) ≤ (-1 : Int)) rfl rfl rfl (fun r hr => Ex.le rfl rfl hr) (fun h165 => ?_) (fun h165 => ?_)
        ·skip
         refine RL.go rfl rfl rfl (Ex.pkT (v := (.bool true)) rfl rfl) ?_
         refine RL.nil (thn.n (CW.condT rfl (CW.skip (thn.n (CW.seq (CW.block (CW.seq ?_)))))))
         refine CW.quiet (fun wq => World.grownBy w154 wq none) Tryz.mixed (by kernel_rfl) ⟨rfl, rfl, rfl, Nat.le_refl _, fun _ _ _ => rfl⟩ ?_
         have hst := fold_stay hx0 he161 (by rw [hsk]; exact h165)
         have hlt9 := lt_len hst
         have hl166 := H157.len (i := 0) rfl
         rw [ents_length] at hl166
         refine QL.go rfl rfl rfl (fun wq gq => Ex.mv (v := (.int .i64 (i : Int))) rfl) ?_
         refine QL.go rfl rfl rfl (fun wq gq => Ex.mv (v := (.slice A144 n145 c146)) rfl) ?_
         refine QL.go rfl rfl rfl (fun wq gq => Ex.len Tryz.underlying22 rfl) ?_
         refine QL.go rfl rfl rfl (fun wq gq => Ex.ge (r := false) rfl rfl (decide_eq_false (by omega))) ?_
         refine QL.go rfl rfl rfl (fun wq gq => Ex.mv (v := (.bool false)) rfl) ?_
         refine QL.go rfl rfl rfl (fun wq gq => Ex.mv (v := (.slice A131 n132 c133)) rfl) ?_
         refine QL.go rfl rfl rfl (fun wq gq => Ex.mv (v := (.int .i64 (i : Int))) rfl) ?_
         obtain ⟨e167, he168⟩ : ∃ e, ((aboveK k ((foldK k r).2.base) 4000))[i]? = some e := ⟨_, List.getElem?_eq_getElem (by omega)⟩
         obtain ⟨ad169, hA170⟩ := Rd.sm (H157.rowrd (i := 1) rfl) (ents_get he168)
         have hl171 := Eng.lt_len (ents_get he168)
         refine QL.go rfl rfl rfl (fun wq gq => Ex.ix (b := (ad169.add (i * 11))) (i := i) Tryz.underlying22 Tryz.sizeOf31 (by rw [← hA170]; rfl) rfl (by omega) (by omega) rfl) ?_
         refine QL.go rfl rfl rfl (fun wq gq => Ex.ldv rfl (loadCN (cs := e167.cells) wh31 (Rd.cl ((H157.grow gq).rowrd (i := 1) rfl) hA170 (ents_get he168)))) ?_
         refine QL.go rfl rfl rfl (fun wq gq => Ex.mv (v := (.slice A144 n145 c146)) rfl) ?_
         refine QL.go rfl rfl rfl (fun wq gq => Ex.mv (v := (.int .i64 (i : Int))) rfl) ?_
         obtain ⟨e172, he173⟩ : ∃ e, ((aboveK (foldK k r).2 ((foldK k r).2.base) 4000))[i]? = some e := ⟨_, List.getElem?_eq_getElem (by omega)⟩
         obtain ⟨ad174, hA175⟩ := Rd.sm (H157.rowrd (i := 0) rfl) (ents_get he173)
         have hl176 := Eng.lt_len (ents_get he173)
         refine QL.go rfl rfl rfl (fun wq gq => Ex.ix (b := (ad174.add (i * 11))) (i := i) Tryz.underlying22 Tryz.sizeOf31 (by rw [← hA175]; rfl) rfl (by omega) (by omega) rfl) ?_
         refine QL.go rfl rfl rfl (fun wq gq => Ex.ldv rfl (loadCN (cs := e172.cells) wh31 (Rd.cl ((H157.grow gq).rowrd (i := 0) rfl) hA175 (ents_get he173)))) ?_
         rw [hst] at he173
         rw [he161] at he168
         have h12 : e167 = e172 := by injection he168 with q1; injection he173 with q2; rw [← q1, ← q2]
         refine QL.go rfl rfl rfl (fun wq gq => Ex.neS (r := false) (xs := e167.cells) (ys := e172.cells) Tryz.eqGuardType31 (eqT31 (r := true) (decide_eq_true (by subst h12; exact ⟨rfl, rfl, rfl, rfl, rfl, rfl, rfl, rfl, rfl, rfl, rfl⟩))) rfl rfl) ?_
         refine QL.go rfl rfl rfl (fun wq gq => Ex.pkF (v := (.bool false)) rfl rfl) ?_
         refine QL.nil ?_
         intro w177 g178
         have H179 := H157.grow g178
         have z180 := g178.size
         refine thn.n (CW.condF rfl ?_)
         refine CW.skip (inB.n (thn.n (CW.region ?_)))
         refine RL.go rfl rfl rfl (Ex.mv (v := (.int .i64 (i : Int))) rfl) ?_
         refine RL.go rfl rfl rfl (Ex.add (r := (i : Int) + 1) rfl rfl (w64 (by omega) (by omega))) ?_
         refine RL.go rfl rfl rfl (Ex.as (v := (.int .i64 ((i : Int) + 1))) rfl) ?_
         refine RL.nil (thn.n ?_)
         refine ⟨(by repeat (first | exact Out.mix _ _ | exact Out.refl _ _ | refine Out.up ?_ rfl _)), _, ?_, i + 1, rfl, rfl, H179, by omega⟩
         omega
        ·skip
         refine RL.go rfl rfl rfl (Ex.pkT (v := (.bool false)) rfl rfl) ?_
         refine RL.nil (thn.n (CW.condF rfl (CW.exit (thn.x (thn.x (inB.hit (thn.n (CW.seq (CW.region ?_)))))))))
         refine RL.call Tryz.call43 (folds15 _) rfl rfl rfl ?_
         rintro _ w181 ⟨rfl, g182⟩
         have H183 := H157.grow g182
         have z184 := g182.size
         refine RL.go rfl rfl rfl (Ex.as (v := (.bool true)) rfl) ?_
         refine RL.nil (thn.n (CW.ret ?_))
         refine finQ.r (v := (.bool true)) (res1 rfl rfl) ?_
         exact ⟨rfl, (H183.fix (i := 6) rfl)⟩
       ·skip
        refine RL.go rfl rfl rfl (Ex.mv (v := (.bool false)) rfl) ?_
        refine RL.out rfl rfl rfl ?_
        refine RL.out rfl rfl rfl ?_
        refine RL.out rfl rfl rfl ?_
        refine RL.out rfl rfl rfl ?_
        refine RL.out rfl rfl rfl ?_
        refine RL.out rfl rfl rfl ?_
        refine RL.out rfl rfl rfl ?_
        refine RL.go rfl rfl rfl (Ex.pkF (v := (.bool false)) rfl rfl) ?_
        refine RL.nil (thn.n (CW.condF rfl (CW.exit (thn.x (thn.x (inB.hit (thn.n (CW.seq (CW.region ?_)))))))))
        refine RL.call Tryz.call43 (folds15 _) rfl rfl rfl ?_
        rintro _ w185 ⟨rfl, g186⟩
        have H187 := H157.grow g186
        have z188 := g186.size
        refine RL.go rfl rfl rfl (Ex.as (v := (.bool true)) rfl) ?_
        refine RL.nil (thn.n (CW.ret ?_))
        refine finQ.r (v := (.bool true)) (res1 rfl rfl) ?_
        exact ⟨rfl, (H187.fix (i := 6) rfl)⟩
     ·skip
      refine RL.nil (thn.n (CW.condF rfl (CW.skip (thn.n (CW.seq (CW.region ?_))))))
      refine RL.go rfl rfl rfl (Ex.ldv rfl (loadCN (cs := [(.int .i64 k.view), (.int .i64 k.normal), (.int .i64 k.base), (.string (tx k.image)), (.slice A n c)]) wh24 (H69.ob (i := 3) rfl).cl)) ?_
      refine RL.go rfl rfl rfl (fa24_2 (b := ⟨b31, 2, none⟩) rfl rfl) ?_
      refine RL.go rfl rfl rfl (Ex.ldv rfl (loadC1 lo3 (Ob.cell (v := (.int .i64 ((foldK k r).2.base))) (H69.ob (i := 0) rfl) rfl))) ?_
      refine RL.call Tryz.call58 (above_ _ _ k A n c (hr.st0 (H69.fix (i := 4) rfl)) (by omega) (by first | assumption | rfl | omega | decide +kernel) (by first | assumption | rfl | omega | decide +kernel) (by first | assumption | rfl | omega | decide +kernel) (by first | assumption | rfl | omega | decide +kernel) ((foldK k r).2.base) 4000 (by omega) (by omega) (by omega)) rfl rfl rfl ?_
      rintro _ w193 ⟨A189, n190, c191, rfl, g194⟩
      have g195 := g194.fix (i := 1) rfl
      have H196 : Sp [RowA 31 11 A189 n190 c191 (ents (aboveK k ((foldK k r).2.base) 4000)), BlkA b31 24 [(.int .i64 ((foldK k r).2.view)), (.int .i64 ((foldK k r).2.normal)), (.int .i64 ((foldK k r).2.base)), (.string (tx (foldK k r).2.image)), (.slice A22 n23 c24)], RowA 31 11 A22 n23 c24 (ents ((foldK k r).2.ents)), BlkA b10 33 [(.int .i64 r.kind), (.int .i64 r.view), (.int .i64 r.from_), (.int .i64 r.number), (.string (tx r.image)), (.int .i64 r.entry.num), (.int .i64 r.entry.view), (.int .i64 r.entry.client), (.int .i64 r.entry.seq), (.int .i64 r.entry.op.kind), (.int .i64 r.entry.op.h), (.int .i64 r.entry.op.i), (.int .i64 r.entry.op.n), (.int .i64 r.entry.op.k), (.int .i64 r.entry.op.v), (.int .i64 r.entry.op.t), (.slice A2 n2 c2)], BlkA b2 24 [(.int .i64 k.view), (.int .i64 k.normal), (.int .i64 k.base), (.string (tx k.image)), (.slice A n c)], Fix w NoB] w193 := H69.join (m := [RowA 31 11 A189 n190 c191 (ents (aboveK k ((foldK k r).2.base) 4000))]) g194
      have z197 := g195.size
      have hal192 := aboveK_len k ((foldK k r).2.base) 4000
      refine RL.go rfl rfl rfl (Ex.as (v := (.slice A189 n190 c191)) rfl) ?_
      refine RL.nil (thn.n (CW.seq (CW.region ?_)))
      refine RL.go rfl rfl rfl (Ex.ldv rfl (loadCN (cs := [(.int .i64 ((foldK k r).2.view)), (.int .i64 ((foldK k r).2.normal)), (.int .i64 ((foldK k r).2.base)), (.string (tx (foldK k r).2.image)), (.slice A22 n23 c24)]) wh24 (H196.ob (i := 1) rfl).cl)) ?_
      refine RL.go rfl rfl rfl (fa24_2 (b := ⟨b31, 2, none⟩) rfl rfl) ?_
      refine RL.go rfl rfl rfl (Ex.ldv rfl (loadC1 lo3 (Ob.cell (v := (.int .i64 ((foldK k r).2.base))) (H196.ob (i := 1) rfl) rfl))) ?_
      have hfl198 : (foldK k r).2.ents.length ≤ 4000 := foldK_len k r
      have hfi199 : (foldK k r).2.image.length ≤ k.image.length + r.image.length := foldK_img k r
      have hl200 := H196.len (i := 2) rfl
      rw [ents_length] at hl200
      have hc201 := H196.cap (i := 2) rfl
      refine RL.call Tryz.call58 (above_ _ _ (foldK k r).2 A22 n23 c24 (H196.rowrd (i := 2) rfl) (Nat.le_refl _) (by first | assumption | rfl | omega | decide +kernel) (by first | assumption | rfl | omega | decide +kernel) (by first | assumption | rfl | omega | decide +kernel) (by first | assumption | rfl | omega | decide +kernel) ((foldK k r).2.base) 4000 (by omega) (by omega) (by omega)) rfl rfl rfl ?_
      rintro _ w206 ⟨A202, n203, c204, rfl, g207⟩
      have g208 := g207.fix (i := 1) rfl
      have H209 : Sp [RowA 31 11 A202 n203 c204 (ents ((aboveK (foldK k r).2 ((foldK k r).2.base) 4000))), RowA 31 11 A189 n190 c191 (ents (aboveK k ((foldK k r).2.base) 4000)), BlkA b31 24 [(.int .i64 ((foldK k r).2.view)), (.int .i64 ((foldK k r).2.normal)), (.int .i64 ((foldK k r).2.base)), (.string (tx (foldK k r).2.image)), (.slice A22 n23 c24)], RowA 31 11 A22 n23 c24 (ents ((foldK k r).2.ents)), BlkA b10 33 [(.int .i64 r.kind), (.int .i64 r.view), (.int .i64 r.from_), (.int .i64 r.number), (.string (tx r.image)), (.int .i64 r.entry.num), (.int .i64 r.entry.view), (.int .i64 r.entry.client), (.int .i64 r.entry.seq), (.int .i64 r.entry.op.kind), (.int .i64 r.entry.op.h), (.int .i64 r.entry.op.i), (.int .i64 r.entry.op.n), (.int .i64 r.entry.op.k), (.int .i64 r.entry.op.v), (.int .i64 r.entry.op.t), (.slice A2 n2 c2)], BlkA b2 24 [(.int .i64 k.view), (.int .i64 k.normal), (.int .i64 k.base), (.string (tx k.image)), (.slice A n c)], Fix w NoB] w206 := H196.join (m := [RowA 31 11 A202 n203 c204 (ents ((aboveK (foldK k r).2 ((foldK k r).2.base) 4000)))]) g207
      have z210 := g208.size
      have hal205 := aboveK_len (foldK k r).2 ((foldK k r).2.base) 4000
      refine RL.go rfl rfl rfl (Ex.as (v := (.slice A202 n203 c204)) rfl) ?_
      refine RL.nil (thn.n (CW.seq (CW.seq (CW.region ?_))))
      have hsk : stayK k r = (lastOf k) := by unfold stayK; first | rw [if_pos (by omega)] | (rw [if_neg (by omega), if_pos (by omega)]) | (rw [if_neg (by omega), if_neg (by omega)])
      refine RL.go rfl rfl rfl (Ex.as (v := (.int .i64 0)) rfl) ?_
      refine RL.nil (thn.n (CW.block ?_))
      have hl211 := H209.len (i := 1) rfl
      rw [ents_length] at hl211
      refine CW.loop (fun t => Nat.beq t 4 || Nat.beq t 10 || (Nat.ble 74 t && Nat.ble t 103)) (fun nL ρ wl => ∃ (i : Nat), ρ 10 = (.int .i64 (i : Int)) ∧ nL = n190 - i ∧ Sp [RowA 31 11 A202 n203 c204 (ents ((aboveK (foldK k r).2 ((foldK k r).2.base) 4000))), RowA 31 11 A189 n190 c191 (ents (aboveK k ((foldK k r).2.base) 4000)), BlkA b31 24 [(.int .i64 ((foldK k r).2.view)), (.int .i64 ((foldK k r).2.normal)), (.int .i64 ((foldK k r).2.base)), (.string (tx (foldK k r).2.image)), (.slice A22 n23 c24)], RowA 31 11 A22 n23 c24 (ents ((foldK k r).2.ents)), BlkA b10 33 [(.int .i64 r.kind), (.int .i64 r.view), (.int .i64 r.from_), (.int .i64 r.number), (.string (tx r.image)), (.int .i64 r.entry.num), (.int .i64 r.entry.view), (.int .i64 r.entry.client), (.int .i64 r.entry.seq), (.int .i64 r.entry.op.kind), (.int .i64 r.entry.op.h), (.int .i64 r.entry.op.i), (.int .i64 r.entry.op.n), (.int .i64 r.entry.op.k), (.int .i64 r.entry.op.v), (.int .i64 r.entry.op.t), (.slice A2 n2 c2)], BlkA b2 24 [(.int .i64 k.view), (.int .i64 k.normal), (.int .i64 k.base), (.string (tx k.image)), (.slice A n c)], Fix w NoB] wl ∧ i ≤ n190) (n190) ?aa0 ?bb0
      case aa0 =>
       exact ⟨0, rfl, rfl, H209, Nat.zero_le _⟩
      case bb0 =>
       rintro n213 ρ0 w212 ho214 ⟨i, hs0_10, hn0, H215, hi⟩
       obtain ⟨j0, rfl⟩ := ho214.shape1 hs0_10
       clear ho214 hs0_10
       subst hn0
       have z216 := (H215.fix (i := 6) rfl).size
       refine CW.seq (CW.seq ?_)
       refine CW.region ?_
       refine RL.go rfl rfl rfl (Ex.mv (v := (.int .i64 (i : Int))) rfl) ?_
       refine RL.go rfl rfl rfl (Ex.mv (v := (.slice A189 n190 c191)) rfl) ?_
       refine RL.go rfl rfl rfl (Ex.len Tryz.underlying22 rfl) ?_
       refine RL.br (p := ((i : Int) : Int) < ((n190 : Nat) : Int)) rfl rfl rfl (fun r hr => Ex.lt rfl rfl hr) (fun h217 => ?_) (fun h217 => ?_)
       ·skip
        refine RL.go rfl rfl rfl (Ex.mv (v := (.bool true)) rfl) ?_
        refine RL.go rfl rfl rfl (Ex.mv (v := (.slice A189 n190 c191)) rfl) ?_
        refine RL.go rfl rfl rfl (Ex.mv (v := (.int .i64 (i : Int))) rfl) ?_
        obtain ⟨e218, he219⟩ : ∃ e, ((aboveK k ((foldK k r).2.base) 4000))[i]? = some e := ⟨_, List.getElem?_eq_getElem (by omega)⟩
        obtain ⟨ad220, hA221⟩ := Rd.sm (H215.rowrd (i := 1) rfl) (ents_get he219)
        have hl222 := Eng.lt_len (ents_get he219)
        refine RL.go rfl rfl rfl (Ex.ix (b := (ad220.add (i * 11))) (i := i) Tryz.underlying22 Tryz.sizeOf31 (by rw [← hA221]; rfl) rfl (by omega) (by omega) rfl) ?_
        refine RL.go rfl rfl rfl (fa31_0 (b := ((ad220.add (i * 11)))) rfl rfl) ?_
        refine RL.go rfl rfl rfl (Ex.ldv rfl (loadC1 lo3 (Cl.at_ (v := (.int .i64 e218.num)) (Rd.cl (H215.rowrd (i := 1) rfl) hA221 (ents_get he219)) (i := 0) rfl))) ?_
        refine RL.go rfl rfl rfl (Ex.mv (v := (.int .i64 (lastOf k))) rfl) ?_
        refine RL.br (p := (e218.num : Int) ≤ ((lastOf k) : Int)) rfl rfl rfl (fun r hr => Ex.le rfl rfl hr) (fun h223 => ?_) (fun h223 => ?_)
        ·skip
         refine RL.go rfl rfl rfl (Ex.pkT (v := (.bool true)) rfl rfl) ?_
         refine RL.nil (thn.n (CW.condT rfl (CW.skip (thn.n (CW.seq (CW.block (CW.seq ?_)))))))
         refine CW.quiet (fun wq => World.grownBy w212 wq none) Tryz.mixed (by kernel_rfl) ⟨rfl, rfl, rfl, Nat.le_refl _, fun _ _ _ => rfl⟩ ?_
         have hst := fold_stay hx0 he219 (by rw [hsk]; exact h223)
         have hlt9 := lt_len hst
         have hl224 := H215.len (i := 0) rfl
         rw [ents_length] at hl224
         refine QL.go rfl rfl rfl (fun wq gq => Ex.mv (v := (.int .i64 (i : Int))) rfl) ?_
         refine QL.go rfl rfl rfl (fun wq gq => Ex.mv (v := (.slice A202 n203 c204)) rfl) ?_
         refine QL.go rfl rfl rfl (fun wq gq => Ex.len Tryz.underlying22 rfl) ?_
         refine QL.go rfl rfl rfl (fun wq gq => Ex.ge (r := false) rfl rfl (decide_eq_false (by omega))) ?_
         refine QL.go rfl rfl rfl (fun wq gq => Ex.mv (v := (.bool false)) rfl) ?_
         refine QL.go rfl rfl rfl (fun wq gq => Ex.mv (v := (.slice A189 n190 c191)) rfl) ?_
         refine QL.go rfl rfl rfl (fun wq gq => Ex.mv (v := (.int .i64 (i : Int))) rfl) ?_
         obtain ⟨e225, he226⟩ : ∃ e, ((aboveK k ((foldK k r).2.base) 4000))[i]? = some e := ⟨_, List.getElem?_eq_getElem (by omega)⟩
         obtain ⟨ad227, hA228⟩ := Rd.sm (H215.rowrd (i := 1) rfl) (ents_get he226)
         have hl229 := Eng.lt_len (ents_get he226)
         refine QL.go rfl rfl rfl (fun wq gq => Ex.ix (b := (ad227.add (i * 11))) (i := i) Tryz.underlying22 Tryz.sizeOf31 (by rw [← hA228]; rfl) rfl (by omega) (by omega) rfl) ?_
         refine QL.go rfl rfl rfl (fun wq gq => Ex.ldv rfl (loadCN (cs := e225.cells) wh31 (Rd.cl ((H215.grow gq).rowrd (i := 1) rfl) hA228 (ents_get he226)))) ?_
         refine QL.go rfl rfl rfl (fun wq gq => Ex.mv (v := (.slice A202 n203 c204)) rfl) ?_
         refine QL.go rfl rfl rfl (fun wq gq => Ex.mv (v := (.int .i64 (i : Int))) rfl) ?_
         obtain ⟨e230, he231⟩ : ∃ e, ((aboveK (foldK k r).2 ((foldK k r).2.base) 4000))[i]? = some e := ⟨_, List.getElem?_eq_getElem (by omega)⟩
         obtain ⟨ad232, hA233⟩ := Rd.sm (H215.rowrd (i := 0) rfl) (ents_get he231)
         have hl234 := Eng.lt_len (ents_get he231)
         refine QL.go rfl rfl rfl (fun wq gq => Ex.ix (b := (ad232.add (i * 11))) (i := i) Tryz.underlying22 Tryz.sizeOf31 (by rw [← hA233]; rfl) rfl (by omega) (by omega) rfl) ?_
         refine QL.go rfl rfl rfl (fun wq gq => Ex.ldv rfl (loadCN (cs := e230.cells) wh31 (Rd.cl ((H215.grow gq).rowrd (i := 0) rfl) hA233 (ents_get he231)))) ?_
         rw [hst] at he231
         rw [he219] at he226
         have h12 : e225 = e230 := by injection he226 with q1; injection he231 with q2; rw [← q1, ← q2]
         refine QL.go rfl rfl rfl (fun wq gq => Ex.neS (r := false) (xs := e225.cells) (ys := e230.cells) Tryz.eqGuardType31 (eqT31 (r := true) (decide_eq_true (by subst h12; exact ⟨rfl, rfl, rfl, rfl, rfl, rfl, rfl, rfl, rfl, rfl, rfl⟩))) rfl rfl) ?_
         refine QL.go rfl rfl rfl (fun wq gq => Ex.pkF (v := (.bool false)) rfl rfl) ?_
         refine QL.nil ?_
         intro w235 g236
         have H237 := H215.grow g236
         have z238 := g236.size
         refine thn.n (CW.condF rfl ?_)
         refine CW.skip (inB.n (thn.n (CW.region ?_)))
         refine RL.go rfl rfl rfl (Ex.mv (v := (.int .i64 (i : Int))) rfl) ?_
         refine RL.go rfl rfl rfl (Ex.add (r := (i : Int) + 1) rfl rfl (w64 (by omega) (by omega))) ?_
         refine RL.go rfl rfl rfl (Ex.as (v := (.int .i64 ((i : Int) + 1))) rfl) ?_
         refine RL.nil (thn.n ?_)
         refine ⟨(by repeat (first | exact Out.mix _ _ | exact Out.refl _ _ | refine Out.up ?_ rfl _)), _, ?_, i + 1, rfl, rfl, H237, by omega⟩
         omega
        ·skip
         refine RL.go rfl rfl rfl (Ex.pkT (v := (.bool false)) rfl rfl) ?_
         refine RL.nil (thn.n (CW.condF rfl (CW.exit (thn.x (thn.x (inB.hit (thn.n (CW.seq (CW.region ?_)))))))))
         refine RL.call Tryz.call43 (folds15 _) rfl rfl rfl ?_
         rintro _ w239 ⟨rfl, g240⟩
         have H241 := H215.grow g240
         have z242 := g240.size
         refine RL.go rfl rfl rfl (Ex.as (v := (.bool true)) rfl) ?_
         refine RL.nil (thn.n (CW.ret ?_))
         refine finQ.r (v := (.bool true)) (res1 rfl rfl) ?_
         exact ⟨rfl, (H241.fix (i := 6) rfl)⟩
       ·skip
        refine RL.go rfl rfl rfl (Ex.mv (v := (.bool false)) rfl) ?_
        refine RL.out rfl rfl rfl ?_
        refine RL.out rfl rfl rfl ?_
        refine RL.out rfl rfl rfl ?_
        refine RL.out rfl rfl rfl ?_
        refine RL.out rfl rfl rfl ?_
        refine RL.out rfl rfl rfl ?_
        refine RL.out rfl rfl rfl ?_
        refine RL.go rfl rfl rfl (Ex.pkF (v := (.bool false)) rfl rfl) ?_
        refine RL.nil (thn.n (CW.condF rfl (CW.exit (thn.x (thn.x (inB.hit (thn.n (CW.seq (CW.region ?_)))))))))
        refine RL.call Tryz.call43 (folds15 _) rfl rfl rfl ?_
        rintro _ w243 ⟨rfl, g244⟩
        have H245 := H215.grow g244
        have z246 := g244.size
        refine RL.go rfl rfl rfl (Ex.as (v := (.bool true)) rfl) ?_
        refine RL.nil (thn.n (CW.ret ?_))
        refine finQ.r (v := (.bool true)) (res1 rfl rfl) ?_
        exact ⟨rfl, (H245.fix (i := 6) rfl)⟩
  ·skip
   refine RL.nil (thn.n (CW.condT rfl (CW.seq (CW.region ?_))))
   refine RL.go rfl rfl rfl (Ex.as (v := (.bool true)) rfl) ?_
   refine RL.nil (thn.n (CW.ret (thn.r ?_)))
   refine finQ.r (v := (.bool true)) (res1 rfl rfl) ?_
   exact ⟨rfl, (H19.fix (i := 2) rfl)⟩
end Go.Proofs.YtfokljnhllflbaaGreat
namespace Go.Proofs.YtfokljnhllflbaaGreat
open Go
set_option maxRecDepth 100000
def sp : Char := Char.ofNat 32
theorem ws_app (r : List Char) : ∀ (a : List Char), (a.all fun c => c != sp) = true → wordsSigns (a ++ sp :: r) = a :: wordsSigns r
  | [], _ => rfl
  | c :: a, h => by
    simp only [List.all_cons, Bool.and_eq_true, bne_iff_ne, ne_eq] at h
    have ih := ws_app r a h.2
    rw [List.cons_append]
    conv => lhs; unfold wordsSigns
    split
    · rename_i e; cases e
    · rename_i e; injection e with e1 _; exact absurd e1 h.1
    · rename_i c' r' hne e
      injection e with e1 e2
      subst e1
      rw [← e2, ih]
theorem io_eq : Tryz.prog.initOrder.toList = "harness".toList ++ sp :: ("e992cc6d704afc89758aaf8fd9a77071690771db51468eeba60045f0eed610c9".toList ++ sp :: ("cut".toList ++ sp :: Tryz.prog.initOrder.toList.drop 77)) := by kernel_rfl
theorem io_words : behindMainWord (wordsSigns Tryz.prog.initOrder.toList) = "cut".toList :: wordsSigns (Tryz.prog.initOrder.toList.drop 77) := by
  rw [io_eq, ws_app _ _ (by decide), ws_app _ _ (by decide), ws_app _ _ (by decide)]
  rw [← io_eq]
  generalize wordsSigns (Tryz.prog.initOrder.toList.drop 77) = ws
  show (if (("harness".toList == "harness".toList || "harness".toList == "ownmain".toList) && isSumSigns "e992cc6d704afc89758aaf8fd9a77071690771db51468eeba60045f0eed610c9".toList) = true then "cut".toList :: ws else "harness".toList :: "e992cc6d704afc89758aaf8fd9a77071690771db51468eeba60045f0eed610c9".toList :: "cut".toList :: ws) = _
  rw [if_pos (by decide)]
theorem sl (ws : List (List Char)) : stripLifts liftWords ("cut".toList :: ws) = ([], "cut".toList :: ws) := by
  unfold liftWords
  simp only [stripLifts]
  rfl
theorem hl : Tryz.prog.headLifts = [] := by unfold Program.headLifts; rw [io_words, sl]; rfl
theorem jf_later : Tryz.prog.laysLater = false := by kernel_rfl
theorem jf_refl : Tryz.prog.bearsReflect = false := by kernel_rfl
theorem jf_rows : Tryz.prog.doorRows = [] := by kernel_rfl
theorem jf_door : Tryz.prog.doorFits [] = true := by unfold Program.doorFits; rw [jf_rows]; rfl
theorem jf_may : Tryz.prog.mayEnter = true := by
  unfold Program.mayEnter
  rw [io_words]
  generalize wordsSigns (Tryz.prog.initOrder.toList.drop 77) = ws
  have e := sl ws
  simp only [e, jf_later, jf_refl, jf_door]
  simp
theorem jf_lift : Tryz.prog.liftsFinal = false := by
  unfold Program.liftsFinal
  rw [io_words, hl]
  generalize wordsSigns (Tryz.prog.initOrder.toList.drop 77) = ws
  rfl
theorem jf_make : Tryz.prog.make = some .cut := by
  unfold Program.make
  rw [io_words]
  generalize wordsSigns (Tryz.prog.initOrder.toList.drop 77) = ws
  rfl
end Go.Proofs.YtfokljnhllflbaaGreat
namespace Go.Proofs.YtfokljnhllflbaaGreat
open Go
set_option maxRecDepth 100000
theorem jf_oplogRight0 : (Rows.oplogRightRow.wf (OpenSpec.ofChange Rows.oplogRightSpec)) = true := by kernel_rfl
theorem jf_oplogRight1 : (laidOutB Tryz.prog) = true := by kernel_rfl
theorem jf_oplogRight2 : (mapsRowed Tryz.prog) = true := by kernel_rfl
theorem jf_oplogRight3 : (Tryz.f9.params.all (Tryz.prog.readableRec ·)) = true := by kernel_rfl
theorem jf_oplogRight4 : (namedTie Tryz.prog Rows.oplogRightRow.named Rows.oplogRightSpec.vars) = true := by kernel_rfl
theorem jf_oplogRight5 : ((Rows.oplogRightRow.stops == [])) = true := by kernel_rfl
theorem jf_oplogRight6 : ((Tryz.prog.stops == [])) = true := by kernel_rfl
theorem jf_oplogRight7 : ((Rows.oplogRightRow.knobs == [])) = true := by kernel_rfl
theorem jf_oplogRight8 : ((Tryz.prog.stopKnobs == [])) = true := by kernel_rfl
theorem jf_oplogRight9 : ((Rows.oplogRightRow.inPlace == Tryz.prog.inPlace 9)) = true := by kernel_rfl
theorem jf_oplogRight10 : ((Rows.oplogRightRow.unfollowed == Tryz.prog.unfollowed 9)) = true := by kernel_rfl
theorem jf_oplogRight11 : ((Rows.oplogRightRow.recurses == Tryz.prog.recurses 9)) = true := by kernel_rfl
theorem jf_oplogRight12 : ((Rows.oplogRightRow.named == Tryz.prog.varsNamed 9)) = true := by kernel_rfl
theorem jf_oplogRight13 : ((Rows.oplogRightRow.maps == (Tryz.f9.params.toList ++ Rows.oplogRightSpec.plain.varTypes Tryz.prog).any (Tryz.prog.mapsRec ·))) = true := by kernel_rfl
theorem jf_oplogRight14 : ((Rows.oplogRightRow.ifaces == (Tryz.f9.params.toList ++ Rows.oplogRightSpec.plain.varTypes Tryz.prog).any (Tryz.prog.ifacesRec ·))) = true := by kernel_rfl
theorem jf_oplogRight15 : ((Rows.oplogRightRow.mapsOut == Tryz.prog.mapsAmong Tryz.f9.resultTypes.toList)) = true := by kernel_rfl
theorem jf_oplogRight16 : ((Rows.oplogRightRow.loops == (Tryz.f9.params.toList ++ Rows.oplogRightSpec.plain.varTypes Tryz.prog).any (Tryz.prog.loopsFrom ·))) = true := by kernel_rfl
theorem jf_oplogRight17 : ((Rows.oplogRightRow.wideKeys == (Tryz.f9.params.toList ++ Rows.oplogRightSpec.plain.varTypes Tryz.prog ++ Tryz.f9.resultTypes.toList).any (Tryz.prog.wideKeysFrom ·))) = true := by kernel_rfl
theorem jf_oplogRight18 : (Rows.oplogRightSpec.vars.all (Tryz.prog.varReadable ·)) = true := by kernel_rfl
theorem jf_oplogRight19 : (Tryz.f9.resultTypes.all (fun t => Tryz.prog.readableRec t && decide (t < Tryz.prog.types.size))) = true := by kernel_rfl
theorem jf_oplogRight20 : ((Rows.oplogRightRow.ifacesOut == Tryz.f9.resultTypes.toList.any (Tryz.prog.ifacesRec ·))) = true := by kernel_rfl
theorem jf_oplogRight21 : ((Rows.oplogRightRow.loopsOut == Tryz.f9.resultTypes.toList.any (Tryz.prog.loopsFrom ·))) = true := by kernel_rfl
theorem jf_oplogRight22 : ((Rows.oplogRightRow.plainKeys == Tryz.prog.plainKeys)) = true := by kernel_rfl
theorem jf_oplogRight23 : (Rows.oplogRightRow.shortTexts.isNone) = true := by kernel_rfl
theorem jf_oplogRight24 : (Tryz.prog.stopsHeard) = true := by kernel_rfl
theorem jf_oplogRight25 : (Tryz.prog.mayEnter) = true := jf_may
theorem jf_oplogRight26 : ((Rows.oplogRightRow.lifted == Tryz.prog.liftsFinal)) = true := by rw [jf_lift]; rfl
theorem jf_oplogRight27 : ((Tryz.prog.make == some Rows.oplogRightRow.make)) = true := by rw [jf_make]; rfl
theorem jf_oplogRight28 : ((Rows.oplogRightRow.kinds == (if Rows.oplogRightRow.domain.isEmpty then [] else Tryz.f9.params.toList.map fun t => match Tryz.prog.underlying t with | some (.int k) => some k | _ => none))) = true := by kernel_rfl
theorem jf_oplogRight29 : ((Rows.oplogRightRow.pinned == Rows.oplogRightRow.pinnedBy)) = true := by kernel_rfl
theorem jf_oplogRight30 : ((Rows.oplogRightRow.veiled == (Tryz.f9.params.toList ++ Rows.oplogRightSpec.plain.varTypes Tryz.prog ++ Tryz.f9.resultTypes.toList).any (Tryz.prog.veiledRec ·))) = true := by kernel_rfl
theorem jf_oplogRight31 : (Rows.oplogRightRow.veiledFits Tryz.prog Tryz.f9.params.toList (Tryz.f9.params.toList ++ Rows.oplogRightSpec.plain.varTypes Tryz.prog ++ Tryz.f9.resultTypes.toList)) = true := by kernel_rfl
theorem jf_oplogRight : joinedFacts Tryz.prog 9 Tryz.f9 Rows.oplogRightSpec Rows.oplogRightRow = true := by
  unfold joinedFacts
  simp only [Bool.and_eq_true]
  exact ⟨⟨⟨⟨⟨⟨⟨⟨⟨⟨⟨⟨⟨⟨⟨⟨⟨⟨⟨⟨⟨⟨⟨⟨⟨⟨⟨⟨⟨⟨⟨jf_oplogRight0, jf_oplogRight1⟩, jf_oplogRight2⟩, jf_oplogRight3⟩, jf_oplogRight4⟩, jf_oplogRight5⟩, jf_oplogRight6⟩, jf_oplogRight7⟩, jf_oplogRight8⟩, jf_oplogRight9⟩, jf_oplogRight10⟩, jf_oplogRight11⟩, jf_oplogRight12⟩, jf_oplogRight13⟩, jf_oplogRight14⟩, jf_oplogRight15⟩, jf_oplogRight16⟩, jf_oplogRight17⟩, jf_oplogRight18⟩, jf_oplogRight19⟩, jf_oplogRight20⟩, jf_oplogRight21⟩, jf_oplogRight22⟩, jf_oplogRight23⟩, jf_oplogRight24⟩, jf_oplogRight25⟩, jf_oplogRight26⟩, jf_oplogRight27⟩, jf_oplogRight28⟩, jf_oplogRight29⟩, jf_oplogRight30⟩, jf_oplogRight31⟩
end Go.Proofs.YtfokljnhllflbaaGreat
namespace Go.Proofs.YtfokljnhllflbaaGreat
open Go Go.Eng Go.ChangeShapes Go.WideShapes Go.ChangeAt Go.RowKit
set_option maxRecDepth 100000 in
theorem oplogRight_lifted (os : Os) (started : os.Started) (H : Type) (enc : TypeId × Value → H) :
    ReturnsInHanded {} Tryz.checked os 9 .any (Rows.oplogRightSpec.pre6 enc Tryz.prog Tryz.f9 Rows.oplogRightRow.domain false) (Rows.oplogRightSpec.post enc Tryz.prog Tryz.f9 false true false false) := by
  refine returnsInHanded_of_change (C := Tryz.checked) Tryz.own started (by kernel_rfl) Tryz.func9
    (ChangeSpec.witness6 (enc := enc) (C := Tryz.checked) false ⟨#[], #[(.agg #[(.int .i64 0), (.int .i64 0), (.int .i64 0), (.string (⟨#[]⟩)), (.slice none 0 0)]), (.agg #[(.int .i64 0), (.int .i64 0), (.int .i64 0), (.int .i64 0), (.string (⟨#[]⟩)), (.int .i64 0), (.int .i64 0), (.int .i64 0), (.int .i64 0), (.int .i64 0), (.int .i64 0), (.int .i64 0), (.int .i64 0), (.int .i64 0), (.int .i64 0), (.int .i64 0), (.slice none 0 0)])], []⟩ 8 (by kernel_rfl) (by kernel_rfl) (by kernel_rfl) (by kernel_rfl)) ?_
  intro W base args ds gs before hval0 hW hcnd _
  have hval : ∀ (j : Nat) t v, Tryz.f9.params[j]? = some t → args[j]? = some v → Value.okWide Tryz.prog W .any base t v := hval0
  have hW' := hW
  obtain ⟨p, q, hA0, hV, rfl, hfz, hnd⟩ := hW
  have hA : DataW.TrodAll enc Tryz.prog W 0 (fun _ => true) true Tryz.f9.params.toList args.toList ds p := hA0
  rw [Tryz.params9] at hA hval
  clear hA0 hval0
  obtain ⟨v0, vs0, d0, ds0, p0, q0, ha0, rfl, rfl, h0, hA⟩ := trodAll_cons hA
  obtain ⟨v1, vs1, d1, ds1, p1, q1, ha1, rfl, rfl, h1, hA⟩ := trodAll_cons hA
  obtain ⟨hz1, rfl, rfl⟩ := trodAll_nil hA
  obtain ⟨rfl, rfl⟩ := trodVars_none hV
  have hargs : args = #[v0, v1] := by apply Array.ext'; rw [ha0, ha1, hz1]
  subst hargs
  obtain ⟨l0, e0, c0⟩ := tr_agg Tryz.underlying24 (hval 0 24 v0 rfl rfl)
  obtain ⟨m0, h0⟩ := h0
  rw [c0] at h0
  clear c0
  obtain ⟨k, A, n, c, q0, hr, hn, hc, hk0, hk1, hk2, hke⟩ := op_Kept h0
  subst q0
  subst e0
  obtain ⟨l1, e1, c1⟩ := tr_agg Tryz.underlying33 (hval 1 33 v1 rfl rfl)
  obtain ⟨m1, h1⟩ := h1
  rw [c1] at h1
  clear c1
  obtain ⟨r, A2, n2, c2, q1, hr2, hn2, hc2, hr0, hr1, hr3, hr4, hre⟩ := op_Rec h1
  subst q1
  subst e1
  refine Calls.mono (oplogRight_ W W.heap.size k A n c hr (Nat.le_refl _) hn hc r A2 n2 c2 hr2 hn2 hc2) ?_
  rintro e W' ⟨v, rfl, rfl, g⟩
  exact ⟨_, rfl, law_post (t := 4) Tryz.laidOut (by kernel_rfl) rfl Tryz.underlying4 hW' rfl rfl g⟩
theorem oplogRight_holds : Rows.OplogRightSaid :=
  OpenClaim.holds_of_wide 9 Tryz.f9 rfl rfl rfl rfl rfl rfl rfl ⟨rfl, rfl, rfl, rfl, rfl⟩ rfl rfl rfl rfl rfl (by kernel_rfl) Tryz.func9 jf_oplogRight
    (of_decide_eq_true (by kernel_rfl)) (by unfold Func.isWrapper; first | (rw [if_pos (by decide +kernel)]; kernel_rfl) | (rw [if_neg (by decide +kernel)]; exact ⟨rfl, rfl⟩))
    (fun os started H enc _ => oplogRight_lifted os started H enc)
#print axioms oplogRight_holds
end Go.Proofs.YtfokljnhllflbaaGreat
