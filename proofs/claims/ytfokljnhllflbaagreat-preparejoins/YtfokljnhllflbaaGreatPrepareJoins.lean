/- Entries come into a log by just the records that the document says, and a request is known there or is not: for every input, with no condition. -/
import Derived.Deep.Quiet
import Derived.Ground.NamesProg
import Derived.Ground.SlgcProg
import Derived.Ground.SlsfProg
import Derived.JoinedOf
import Derived.Laws.BytesString
import Derived.Laws.MakeOwn
import Derived.Laws.Strings
import Derived.Lib.AppendZeros
import Derived.Lib.ConvBytes
import Derived.Lib.Overlaps
import Derived.Maps.AppendAt
import Derived.OrdersHeld
import Derived.ProofKit
import Derived.Recover
import Derived.ScopeJumps
import Derived.Shelf.SlSortCmp.NoneTotal
import Derived.Shelf.SlSortCmp.WholeK
import Derived.Shelf.SlicesG.Cmp
import Derived.Shelf.Small.Bits
import Derived.Sort.OwnSortedInts
import Derived.StillTail
import Derived.Test.YtfokljnhllflbaaGreatProg
import Derived.Test.YtfokljnhllflbaaGreatRows
import Derived.WalkKit
import Derived.WalkLawsBesides
import Derived.WalkSpells
import Derived.Test.YtfokljnhllflbaaGreatPPrepareJoins5
set_option linter.unusedSimpArgs false
set_option linter.unusedVariables false
namespace Go.Proofs.YtfokljnhllflbaaGreat
open Go Go.Eng Go.RowKit
set_option maxHeartbeats 400000 in
set_option maxRecDepth 20000 in
theorem known1_ (w : World) (p1 p2 p3 : Nat) (commit client seq : Int) (hp1 : Ob w p1 3 [.int .i64 commit]) (hp2 : Ob w p2 3 [.int .i64 client]) (hp3 : Ob w p3 3 [.int .i64 seq]) (e : Entry) : Ret Tryz.prog 131 [(.agg (e.cells).toArray), (.pointer (some ⟨p1, 0, none⟩)), (.pointer (some ⟨p2, 0, none⟩)), (.pointer (some ⟨p3, 0, none⟩))] w (fun v w' => v = .bool (knownP commit client seq e) ∧ w.grownBy w' none) := by
  have H0 : Sp [Bc w Bp] w := Bl w
  refine Ret.body Tryz.func131 Z Z Z ?_
  refine CW.seq (CW.region (RL.bx (cs := e.cells) Z Z Z ?_))
  intro w1 b2 hb3 hz4 g5 o6
  have H7 := H0.newB g5 o6 (by omega)
  have z8 := g5.size
  refine za bF Z (RL.nil (thn.n (CW.seq (CW.region (zg Z (fa31_0 (b := ⟨b2, 0, none⟩) Z Z) (zl (J e.num) Bw (H7.ob (i := 0) Z) Z (zl (J commit) Bw (hp1.st0 (H7.fix (i := 1) Z)) Z ?_)))))))
  refine zc ((commit : Int) < (e.num : Int)) Z (fun r hr => Cv Z Z hr) (fun h9 => ?_) (fun h9 => ?_)
  ·skip
   refine zm bT Z (zg Z (fa31_2 (b := ⟨b2, 2, none⟩) Z Z) (zl (J e.client) Bw (H7.ob (i := 0) Z) Z (zl (J client) Bw (hp2.st0 (H7.fix (i := 1) Z)) Z ?_)))
   refine zc ((e.client : Int) = (client : Int)) Z (fun r hr => Bm Z Z hr) (fun h10 => ?_) (fun h10 => ?_)
   ·skip
    refine zT bT Z (zm bT Z (zg Z (fa31_3 (b := ⟨b2, 3, none⟩) Z Z) (zl (J e.seq) Bw (H7.ob (i := 0) Z) Z (zl (J seq) Bw (hp3.st0 (H7.fix (i := 1) Z)) Z ?_))))
    refine zc ((seq : Int) ≤ (e.seq : Int)) Z (fun r hr => Dp Z Z hr) (fun h11 => ?_) (fun h11 => ?_)
    ·skip
     refine zT bT Z (za bT Z (RL.nil (thn.n (CW.ret (finQ.r (v := bT) (Ax Z Z) ?_)))))
     exact ⟨An (by unfold knownP; first | (simp [h9, h10, h11]; done) | (simp [h9, h10, h11]; omega) | (simp [h9, h10, h11]; intros; omega)), (H7.fix (i := 1) Z)⟩
    ·skip
     refine zT bF Z (za bF Z (RL.nil (thn.n (CW.ret (finQ.r (v := bF) (Ax Z Z) ?_)))))
     exact ⟨An (by unfold knownP; first | (simp [h9, h10, h11]; done) | (simp [h9, h10, h11]; omega) | (simp [h9, h10, h11]; intros; omega)), (H7.fix (i := 1) Z)⟩
   ·skip
    refine zT bF Z (zm bF Z (zo Z (zo Z (zo Z (zo Z (zF bF Z (za bF Z (RL.nil (thn.n (CW.ret (finQ.r (v := bF) (Ax Z Z) ?_)))))))))))
    exact ⟨An (by unfold knownP; first | (simp [h9, h10]; done) | (simp [h9, h10]; omega) | (simp [h9, h10]; intros; omega)), (H7.fix (i := 1) Z)⟩
  ·skip
   refine zm bF Z (zo Z (zo Z (zo Z (zo Z (zF bF Z (zm bF Z (zo Z (zo Z (zo Z (zo Z ?_))))))))))
   refine zF bF Z (za bF Z (RL.nil (thn.n (CW.ret (finQ.r (v := bF) (Ax Z Z) ?_)))))
   exact ⟨An (by unfold knownP; first | (simp [h9]; done) | (simp [h9]; omega) | (simp [h9]; intros; omega)), (H7.fix (i := 1) Z)⟩
set_option maxHeartbeats 400000 in
set_option maxRecDepth 20000 in
theorem ixK_ (w : World) (p1 p2 p3 : Nat) (commit client seq : Int) (hp1 : Ob w p1 3 [.int .i64 commit]) (hp2 : Ob w p2 3 [.int .i64 client]) (hp3 : Ob w p3 3 [.int .i64 seq]) (B : Nat) (l : List Entry) (A : Option Addr) (n c : Nat) (hr : Rd w B 11 A (ents l)) (hn : n = l.length) (hm : n ≤ 1099511627776) : Ret Tryz.prog 189 [(.slice A n c), (.func (.func 131) #[] #[(.pointer (some ⟨p1, 0, none⟩)), (.pointer (some ⟨p2, 0, none⟩)), (.pointer (some ⟨p3, 0, none⟩))])] w (fun v w' => v = .int .i64 (idxF (knownP commit client seq) l) ∧ w.grownBy w' none) := by
  have H0 : Sp [Bc w Bp] w := Bl w
  refine Ret.body Tryz.func189 Z Z Z ?_
  refine CW.seq (CW.region (za (J 0) Z (RL.nil (thn.n (CW.seq (CW.seq (CW.region (zm (.slice A n c) Z (zg Z (Ex.len Tryz.underlying22 Z) (zm (J 0) Z (RL.nil (thn.n (CW.block ?_)))))))))))))
  refine CW.loop (fun t => (Nat.ble 4 t && Nat.ble t 5) || (Nat.ble 8 t && Nat.ble t 18)) (fun nL ρ wl => ∃ (k : Nat), ρ 8 = (J (k : Int)) ∧ nL = n - k ∧ Sp [Bc w Bp] wl ∧ k ≤ n ∧ idxFrom (knownP commit client seq) k (l.drop k) = idxF (knownP commit client seq) l) (n) ?aa0 ?bb0
  case aa0 =>
   exact ⟨0, Z, Z, H0, Nat.zero_le _, Z⟩
  case bb0 =>
   rintro n2 ρ0 w1 ho3 ⟨k, hs0_8, hn0, H4, hk, hix⟩
   obtain ⟨j0, rfl⟩ := ho3.shape1 hs0_8
   clear ho3 hs0_8
   subst hn0
   have z5 := (H4.fix (i := 0) rfl).size
   refine CW.seq (CW.region ?_)
   refine zc (((k : Int) : Int) < ((n : Nat) : Int)) Z (fun r hr => Ex.lt Z Z hr) (fun h6 => ?_) (fun h6 => ?_)
   ·skip
    refine RL.nil (thn.n (CW.seq (Aa Z (CW.skip (thn.n (CW.seq (CW.block (CW.seq (CW.region (zm (J (k : Int)) Z (za (J (k : Int)) Z (RL.nil (thn.n (CW.seq (CW.region (zm (.func (.func 131) #[] #[(.pointer (some ⟨p1, 0, none⟩)), (.pointer (some ⟨p2, 0, none⟩)), (.pointer (some ⟨p3, 0, none⟩))]) Z (zm (.slice A n c) Z (zm (J (k : Int)) Z ?_))))))))))))))))))
    obtain ⟨e7, he8⟩ : ∃ e, (l)[k]? = some e := ⟨_, List.getElem?_eq_getElem (by omega)⟩
    obtain ⟨ad9, hA10⟩ := Rd.sm (hr.st0 (H4.fix (i := 0) rfl)) (Bt he8)
    have hl11 := Eng.lt_len (Bt he8)
    refine zg Z (Ck (b := (ad9.add (k * 11))) (i := k) Tryz.underlying22 Tryz.sizeOf31 (by rw [← hA10]; rfl) Z (by omega) (by omega) Z) (zg Z (Ag Z (Ak (cs := e7.cells) wh31 (Rd.cl (hr.st0 (H4.fix (i := 0) Z)) hA10 (Bt he8)))) (RL.callV Tryz.call131 Z (known1_ _ p1 p2 p3 commit client seq (hp1.st0 (H4.fix (i := 0) Z)) (hp2.st0 (H4.fix (i := 0) Z)) (hp3.st0 (H4.fix (i := 0) Z)) e7) Z Z Z ?_))
    rintro _ w12 ⟨rfl, g13⟩
    have H14 := H4.grow g13
    have z15 := g13.size
    rcases hb16 : (knownP commit client seq e7) with _ | _
    ·skip
     refine RL.nil (thn.n (Ad Z (CW.skip (inB.n (thn.n (CW.region (zg Z (Ex.add (r := (k : Int) + 1) Z Z (Dd (by omega) (by omega))) (zm (J ((k : Int) + 1)) Z (RL.nil (thn.n ?_))))))))))
     refine ⟨(by repeat (first | exact Out.mix _ _ | exact Out.refl _ _ | refine Bf ?_ Z _)), _, ?_, k + 1, Z, Z, H14, by omega, idxF_go hix he8 hb16⟩
     omega
    ·skip
     refine RL.nil (thn.n (Aa Z (CW.seq (CW.region (zm (J (k : Int)) Z (za (J (k : Int)) Z (RL.nil (thn.n (CW.ret (inB.r (thn.r (thn.r (inB.r (thn.r (finQ.r (v := (J (k : Int))) (Ax Z Z) ?_)))))))))))))))
     exact ⟨Bb (idxF_yes hix he8 hb16), (H14.fix (i := 0) Z)⟩
   ·skip
    refine RL.nil (thn.n (CW.seq (Ad Z (CW.exit (thn.x (thn.x (Bh (thn.n (CW.seq (CW.region (za (J (-1)) Z (RL.nil (thn.n (CW.ret (finQ.r (v := (J (-1))) (Ax Z Z) ?_)))))))))))))))
    exact ⟨Bb (idxF_end hix (by omega)), (H4.fix (i := 0) Z)⟩
set_option maxHeartbeats 400000 in
set_option maxRecDepth 20000 in
theorem ctK_ (w : World) (p1 p2 p3 : Nat) (commit client seq : Int) (hp1 : Ob w p1 3 [.int .i64 commit]) (hp2 : Ob w p2 3 [.int .i64 client]) (hp3 : Ob w p3 3 [.int .i64 seq]) (B : Nat) (l : List Entry) (A : Option Addr) (n c : Nat) (hr : Rd w B 11 A (ents l)) (hn : n = l.length) (hm : n ≤ 1099511627776) : Ret Tryz.prog 130 [(.slice A n c), (.func (.func 131) #[] #[(.pointer (some ⟨p1, 0, none⟩)), (.pointer (some ⟨p2, 0, none⟩)), (.pointer (some ⟨p3, 0, none⟩))])] w (fun v w' => v = .bool (l.any (knownP commit client seq)) ∧ w.grownBy w' none) := by
  have H0 : Sp [Bc w Bp] w := Bl w
  refine Ret.body Tryz.func130 Z Z Z ?_
  refine CW.seq (CW.region (za bF Z (RL.nil (thn.n (CW.seq (CW.region (zm (.slice A n c) Z (zm (.func (.func 131) #[] #[(.pointer (some ⟨p1, 0, none⟩)), (.pointer (some ⟨p2, 0, none⟩)), (.pointer (some ⟨p3, 0, none⟩))]) Z (RL.call Tryz.call189 (ixK_ _ p1 p2 p3 commit client seq hp1 hp2 hp3 _ l A n c hr (by first | assumption | rfl | omega) (by omega)) Z Z Z ?_)))))))))
  rintro _ w1 ⟨rfl, g2⟩
  have H3 := H0.grow g2
  have z4 := g2.size
  refine zg Z (Dp (r := l.any (knownP commit client seq)) Z Z (idxF_any _ _)) (za (.bool (l.any (knownP commit client seq))) Z (RL.nil (thn.n (CW.ret (finQ.r (v := (.bool (l.any (knownP commit client seq)))) (Ax Z Z) ?_)))))
  exact ⟨Z, (H3.fix (i := 0) Z)⟩
set_option maxHeartbeats 400000 in
set_option maxRecDepth 20000 in
theorem knownK_ (w : World) (B : Nat) (k : Kept) (A : Option Addr) (n c : Nat) (hr : Rd w B 11 A (ents k.ents)) (hB : B ≤ w.heap.size) (hn : n = k.ents.length) (hm : n ≤ 1099511627776) (hc : n ≤ c) (hi : k.image.length ≤ 140737488351232) (commit client seq : Int) : Ret Tryz.prog 67 [(.agg ([(J k.view), (J k.normal), (J k.base), (.string (tx k.image)), (.slice A n c)]).toArray), (J commit), (J client), (J seq)] w (fun v w' => v = .bool (knownK k commit client seq) ∧ w.grownBy w' none) := by
  have H0 : Sp [Bc w Bp] w := Bl w
  refine Ret.body Tryz.func67 Z Z Z ?_
  refine CW.seq (CW.region (RL.bx (cs := [(J k.view), (J k.normal), (J k.base), (.string (tx k.image)), (.slice A n c)]) Z Z Z ?_))
  intro w1 b2 hb3 hz4 g5 o6
  have H7 := H0.newB g5 o6 (by omega)
  have z8 := g5.size
  refine RL.bx (cs := [(J commit)]) Z Z Z ?_
  intro w9 b10 hb11 hz12 g13 o14
  have H15 := H7.newB g13 o14 (by omega)
  have z16 := g13.size
  refine RL.bx (cs := [(J client)]) Z Z Z ?_
  intro w17 b18 hb19 hz20 g21 o22
  have H23 := H15.newB g21 o22 (by omega)
  have z24 := g21.size
  refine RL.bx (cs := [(J seq)]) Z Z Z ?_
  intro w25 b26 hb27 hz28 g29 o30
  have H31 := H23.newB g29 o30 (by omega)
  have z32 := g29.size
  refine za bF Z (RL.nil (thn.n (CW.seq (CW.region (zg Z (Ag Z (Ak (cs := [(J k.view), (J k.normal), (J k.base), (.string (tx k.image)), (.slice A n c)]) wh24 (H31.ob (i := 3) Z).cl)) (RL.call Tryz.call57 (opCheck_ _ _ _ k (KeptR.of (k := k) (n := n) (c := c) (hr.st0 (H31.fix (i := 4) Z)) (by show n = (k.ents).length; (try simp only [List.length_append, List.length_cons, List.length_nil, List.length_take, List.length_drop]); all_goals omega) (by omega) (by omega) (by first | assumption | (show List.length _ ≤ _; first | assumption | decide | omega))) (by omega)) Z Z Z ?_))))))
  rintro _ w33 ⟨rfl, g34⟩
  have H35 := H31.grow g34
  have z36 := g34.size
  refine zc (((if Cj k then 0 else 1) : Int) = (0 : Int)) Z (fun r hr => Bm Z Z hr) (fun h37 => ?_) (fun h37 => ?_)
  ·skip
   refine zm bT Z (zg Z (Df (b := ⟨b2, 4, none⟩) Z Z) (zl (.slice A n c) lo22 (H35.ob (i := 3) Z) Z (zg Z (Ex.mkf (v := (.func (.func 131) #[] #[(.pointer (some ⟨b10, 0, none⟩)), (.pointer (some ⟨b18, 0, none⟩)), (.pointer (some ⟨b26, 0, none⟩))])) Z) (RL.call Tryz.call130 (ctK_ _ b10 b18 b26 commit client seq (H35.ob (i := 2) Z) (H35.ob (i := 1) Z) (H35.ob (i := 0) Z) _ k.ents A n c (hr.st0 (H35.fix (i := 4) Z)) (by first | assumption | rfl | omega) (by omega)) Z Z Z ?_))))
   rintro _ w38 ⟨rfl, g39⟩
   have H40 := H35.grow g39
   have z41 := g39.size
   rcases hb42 : (k.ents.any (knownP commit client seq)) with _ | _
   ·skip
    refine zT bF Z (za bF Z (RL.nil (thn.n (CW.ret (finQ.r (v := bF) (Ax Z Z) ?_)))))
    exact ⟨An (by unfold knownK; rw [ite_eq0' h37, hb42]; rfl), (H40.fix (i := 4) Z)⟩
   ·skip
    refine zT bT Z (za bT Z (RL.nil (thn.n (CW.ret (finQ.r (v := bT) (Ax Z Z) ?_)))))
    exact ⟨An (by unfold knownK; rw [ite_eq0' h37, hb42]; rfl), (H40.fix (i := 4) Z)⟩
  ·skip
   refine zm bF Z (zo Z (zo Z (zo Z (zo Z (zF bF Z (za bF Z (RL.nil (thn.n (CW.ret (finQ.r (v := bF) (Ax Z Z) ?_))))))))))
   exact ⟨An (by unfold knownK; rw [ite_ne0' h37]; rfl), (H35.fix (i := 4) Z)⟩
set_option maxHeartbeats 1000000 in
set_option maxRecDepth 20000 in
theorem knownR_ (w : World) (B : Nat) (k : Kept) (A : Option Addr) (n c : Nat) (hr : Rd w B 11 A (ents k.ents)) (hB : B ≤ w.heap.size) (hn : n = k.ents.length) (hm : n ≤ 1099511627776) (hc : n ≤ c) (hi : k.image.length ≤ 140737488351232) (commit client seq : Int) : Ret Tryz.prog 68 [(.agg ([(J k.view), (J k.normal), (J k.base), (.string (tx k.image)), (.slice A n c)]).toArray), (J commit), (J client), (J seq)] w (fun v w' => v = .bool (knownK k commit client seq) ∧ w.grownBy w' none) := by
  have H0 : Sp [Bc w Bp] w := Bl w
  refine Ret.body Tryz.func68 Z Z Z ?_
  refine CW.seq (CW.region (RL.bx (cs := [(J k.view), (J k.normal), (J k.base), (.string (tx k.image)), (.slice A n c)]) Z Z Z ?_))
  intro w1 b2 hb3 hz4 g5 o6
  have H7 := H0.newB g5 o6 (by omega)
  have z8 := g5.size
  refine za bF Z (RL.nil (thn.n (CW.seq (CW.seq (CW.region (za (J 0) Z (RL.nil (thn.n (CW.block ?_)))))))))
  refine CW.loop (fun t => (Nat.ble 8 t && Nat.ble t 40)) (fun nL ρ wl => ∃ (i : Nat), ρ 9 = (J (i : Int)) ∧ nL = n - i ∧ Sp [Ae b2 24 [(J k.view), (J k.normal), (J k.base), (.string (tx k.image)), (.slice A n c)], Bc w Bp] wl ∧ i ≤ n ∧ ∀ (j : Nat) (x : Entry), j < i → k.ents[j]? = some x → knownP commit client seq x = false) (n) ?aa0 ?bb0
  case aa0 =>
   exact ⟨0, Z, Z, H7, Nat.zero_le _, fun j x hj => by omega⟩
  case bb0 =>
   rintro n10 ρ0 w9 ho11 ⟨i, hs0_9, hn0, H12, hi_, hO⟩
   obtain ⟨j0, rfl⟩ := ho11.shape1 hs0_9
   clear ho11 hs0_9
   subst hn0
   have z13 := (H12.fix (i := 1) rfl).size
   refine CW.seq (CW.seq (CW.region (zm (J (i : Int)) Z (zg Z (Df (b := ⟨b2, 4, none⟩) Z Z) (zl (.slice A n c) lo22 (H12.ob (i := 0) Z) Z (zg Z (Ex.len Tryz.underlying22 Z) ?_))))))
   refine zc (((i : Int) : Int) < ((n : Nat) : Int)) Z (fun r hr => Ex.lt Z Z hr) (fun h14 => ?_) (fun h14 => ?_)
   ·skip
    refine RL.nil (thn.n (Aa Z (CW.skip (thn.n (CW.seq (CW.block (CW.seq (CW.region (zg Z (Df (b := ⟨b2, 4, none⟩) Z Z) (zl (.slice A n c) lo22 (H12.ob (i := 0) Z) Z (zm (J (i : Int)) Z ?_)))))))))))
    obtain ⟨e15, he16⟩ : ∃ e, (k.ents)[i]? = some e := ⟨_, List.getElem?_eq_getElem (by omega)⟩
    obtain ⟨ad17, hA18⟩ := Rd.sm (hr.st0 (H12.fix (i := 1) rfl)) (Bt he16)
    have hl19 := Eng.lt_len (Bt he16)
    refine zg Z (Ck (b := (ad17.add (i * 11))) (i := i) Tryz.underlying22 Tryz.sizeOf31 (by rw [← hA18]; rfl) Z (by omega) (by omega) Z) (zg Z (Ag Z (Ak (cs := e15.cells) wh31 (Rd.cl (hr.st0 (H12.fix (i := 1) Z)) hA18 (Bt he16)))) (RL.al (cs := [(J 0), (J 0), (J 0), (J 0), (J 0), (J 0), (J 0), (J 0), (J 0), (J 0), (J 0)]) Tryz.zeroValue31 Z Z Z ?_))
    intro w20 b21 hb22 hz23 g24 o25
    have H26 := H12.newB g24 o25 (by omega)
    have z27 := g24.size
    refine RL.st (vs := e15.cells) (cs' := e15.cells) Tryz.sizeOf31 (H26.ob (i := 0) Z) Z Z Z Z Z Z ?_
    intro w28 hz29 g30 o31
    have H32 : Sp [Ae b21 31 e15.cells, Ae b2 24 [(J k.view), (J k.normal), (J k.base), (.string (tx k.image)), (.slice A n c)], Bc w Bp] w28 := H26.setB (i := 0) rfl g30 o31 rfl
    have z33 := g30.size
    refine RL.nil (thn.n (CW.seq (CW.region (zg Z (fa31_0 (b := ⟨b21, 0, none⟩) Z Z) (zl (J e15.num) Bw (H32.ob (i := 0) Z) Z (zm (J commit) Z ?_))))))
    refine zc ((commit : Int) < (e15.num : Int)) Z (fun r hr => Cv Z Z hr) (fun h34 => ?_) (fun h34 => ?_)
    ·skip
     refine zm bT Z (zg Z (fa31_2 (b := ⟨b21, 2, none⟩) Z Z) (zl (J e15.client) Bw (H32.ob (i := 0) Z) Z (zm (J client) Z ?_)))
     refine zc ((e15.client : Int) = (client : Int)) Z (fun r hr => Bm Z Z hr) (fun h35 => ?_) (fun h35 => ?_)
     ·skip
      refine zT bT Z (zm bT Z (zg Z (fa31_3 (b := ⟨b21, 3, none⟩) Z Z) (zl (J e15.seq) Bw (H32.ob (i := 0) Z) Z (zm (J seq) Z ?_))))
      refine zc ((seq : Int) ≤ (e15.seq : Int)) Z (fun r hr => Dp Z Z hr) (fun h36 => ?_) (fun h36 => ?_)
      ·skip
       refine zT bT Z (RL.nil (thn.n (Aa Z (CW.seq (CW.region (zg Z (Ag Z (Ak (cs := [(J k.view), (J k.normal), (J k.base), (.string (tx k.image)), (.slice A n c)]) wh24 (H32.ob (i := 1) Z).cl)) (RL.call Tryz.call59 (rightK_ _ _ k A n c (hr.st0 (H32.fix (i := 2) Z)) (by omega) (by first | assumption | rfl | omega | decide +kernel) (by first | assumption | rfl | omega | decide +kernel) (by first | assumption | rfl | omega | decide +kernel) (by first | assumption | rfl | omega | decide +kernel)) Z Z Z ?_)))))))
       rintro _ w37 ⟨rfl, g38⟩
       have H39 := H32.grow g38
       have z40 := g38.size
       rcases hb41 : (Cj k) with _ | _
       ·skip
        refine za bF Z (RL.nil (thn.n (CW.ret (inB.r (thn.r (thn.r (inB.r (thn.r (finQ.r (v := bF) (Ax Z Z) ?_)))))))))
        have hkp : knownP commit client seq e15 = true := by unfold knownP; simp [h34, h35, h36]
        exact ⟨An (by unfold knownK; rw [any_yes he16 hkp, hb41]; rfl), (H39.fix (i := 2) Z)⟩
       ·skip
        refine za bT Z (RL.nil (thn.n (CW.ret (inB.r (thn.r (thn.r (inB.r (thn.r (finQ.r (v := bT) (Ax Z Z) ?_)))))))))
        have hkp : knownP commit client seq e15 = true := by unfold knownP; simp [h34, h35, h36]
        exact ⟨An (by unfold knownK; rw [any_yes he16 hkp, hb41]; rfl), (H39.fix (i := 2) Z)⟩
      ·skip
       refine zT bF Z (RL.nil (thn.n (Ad Z (CW.skip (inB.n (thn.n (CW.region (zm (J (i : Int)) Z (zg Z (Ex.add (r := (i : Int) + 1) Z Z (Dd (by omega) (by omega))) (za (J ((i : Int) + 1)) Z (RL.nil (thn.n ?_))))))))))))
       refine ⟨(by repeat (first | exact Out.mix _ _ | exact Out.refl _ _ | refine Bf ?_ Z _ | refine Ch ?_ (by intro t ht; simp only [Bool.or_eq_false_iff, Bool.and_eq_false_iff, ble_f, beq_f] at ht ⊢; omega))), _, ?_, i + 1, Z, Z, (H32.sel [1, 2] (by decide) Z), by omega, upto_go (p := fun _ (x : Entry) => knownP commit client seq x = false) hO he16 (by unfold knownP; first | (simp [h34, h35, h36]; done) | (simp [h34, h35, h36]; omega) | (simp [h34, h35, h36]; intros; omega))⟩
       omega
     ·skip
      refine zT bF Z (zm bF Z (zo Z (zo Z (zo Z (zo Z (zF bF Z (RL.nil (thn.n (Ad Z (CW.skip (inB.n (thn.n (CW.region (zm (J (i : Int)) Z (zg Z (Ex.add (r := (i : Int) + 1) Z Z (Dd (by omega) (by omega))) (za (J ((i : Int) + 1)) Z ?_))))))))))))))))
      refine RL.nil (thn.n ?_)
      refine ⟨(by repeat (first | exact Out.mix _ _ | exact Out.refl _ _ | refine Bf ?_ Z _ | refine Ch ?_ (by intro t ht; simp only [Bool.or_eq_false_iff, Bool.and_eq_false_iff, ble_f, beq_f] at ht ⊢; omega))), _, ?_, i + 1, Z, Z, (H32.sel [1, 2] (by decide) Z), by omega, upto_go (p := fun _ (x : Entry) => knownP commit client seq x = false) hO he16 (by unfold knownP; first | (simp [h14, h34, h35]; done) | (simp [h14, h34, h35]; omega) | (simp [h14, h34, h35]; intros; omega))⟩
      omega
    ·skip
     refine zm bF Z (zo Z (zo Z (zo Z (zo Z (zF bF Z (zm bF Z (zo Z (zo Z (zo Z (zo Z ?_))))))))))
     refine zF bF Z (RL.nil (thn.n (Ad Z (CW.skip (inB.n (thn.n (CW.region (zm (J (i : Int)) Z (zg Z (Ex.add (r := (i : Int) + 1) Z Z (Dd (by omega) (by omega))) (za (J ((i : Int) + 1)) Z (RL.nil (thn.n ?_))))))))))))
     refine ⟨(by repeat (first | exact Out.mix _ _ | exact Out.refl _ _ | refine Bf ?_ Z _ | refine Ch ?_ (by intro t ht; simp only [Bool.or_eq_false_iff, Bool.and_eq_false_iff, ble_f, beq_f] at ht ⊢; omega))), _, ?_, i + 1, Z, Z, (H32.sel [1, 2] (by decide) Z), by omega, upto_go (p := fun _ (x : Entry) => knownP commit client seq x = false) hO he16 (by unfold knownP; first | (simp [h14, h34]; done) | (simp [h14, h34]; omega) | (simp [h14, h34]; intros; omega))⟩
     omega
   ·skip
    refine RL.nil (thn.n (Ad Z (CW.exit (thn.x (thn.x (Bh (thn.n (CW.seq (CW.region (za bF Z (RL.nil (thn.n (CW.ret (finQ.r (v := bF) (Ax Z Z) ?_))))))))))))))
    exact ⟨An (by unfold knownK; rw [any_none (n := i) (by omega) hO, Bool.and_false]), (H12.fix (i := 1) Z)⟩
set_option maxHeartbeats 2000000 in
set_option maxRecDepth 20000 in
theorem joinR_ (w : World) (B : Nat) (k : Kept) (A : Option Addr) (n c : Nat) (hr : Rd w B 11 A (ents k.ents)) (hB : B ≤ w.heap.size) (hn : n = k.ents.length) (hm : n ≤ 1099511627776) (hc : n ≤ c) (hi : k.image.length ≤ 140737488351232) (number : Int) (l : List Entry) (A2 : Option Addr) (n2 c2 : Nat) (hr2 : Rd w B 11 A2 (ents l)) (hn2 : n2 = l.length) (hm2 : n2 ≤ 1000000) : Ret Tryz.prog 65 [(.agg ([(J k.view), (J k.normal), (J k.base), (.string (tx k.image)), (.slice A n c)]).toArray), (J number), (.slice A2 n2 c2)] w (fun v w' => ∃ (A' : Option Addr) (n' c' : Nat), v = .tuple #[.slice A' n' c', .bool (Co k number l).2] ∧ Sp ([At 33 17 A' n' c' (recsE (Co k number l).1)] ++ [Bc w Bp]) w') := by
  have H0 : Sp [Bc w Bp] w := Bl w
  refine Ret.body Tryz.func65 Z Z Z ?_
  refine CW.seq (CW.region (RL.bx (cs := [(J k.view), (J k.normal), (J k.base), (.string (tx k.image)), (.slice A n c)]) Z Z Z ?_))
  intro w1 b2 hb3 hz4 g5 o6
  have H7 := H0.newB g5 o6 (by omega)
  have z8 := g5.size
  refine za (.slice none 0 0) Z (za bF Z (RL.nil (thn.n (CW.seq (CW.seq (CW.region (zg Z (Ag Z (Ak (cs := [(J k.view), (J k.normal), (J k.base), (.string (tx k.image)), (.slice A n c)]) wh24 (H7.ob (i := 0) Z).cl)) (RL.call Tryz.call59 (rightK_ _ _ k A n c (hr.st0 (H7.fix (i := 1) Z)) (by omega) (by first | assumption | rfl | omega | decide +kernel) (by first | assumption | rfl | omega | decide +kernel) (by first | assumption | rfl | omega | decide +kernel) (by first | assumption | rfl | omega | decide +kernel)) Z Z Z ?_))))))))
  rintro _ w9 ⟨rfl, g10⟩
  have H11 := H7.grow g10
  have z12 := g10.size
  rcases hb13 : (Cj k) with _ | _
  ·skip
   refine zg Z (Ex.not (b := false) Z) (zm bT Z (zo Z (zo Z (zT bT Z (zm bT Z (zo Z (zo Z (zo Z (zo Z (zT bT Z ?_))))))))))
   refine zm bT Z (zo Z (zo Z (zo Z (zo Z (zT bT Z (RL.nil (thn.n (Aa Z (CW.seq (CW.region (za (.slice none 0 0) Z (za bF Z (RL.nil (thn.n (CW.ret (thn.r (finQ.r (v := (.tuple #[(.slice none 0 0), bF])) (res2 Z Z Z) ?_)))))))))))))))))
   have H14 := H11.nil_ 33 17
   have hx : Co k number l = ([], false) := joinK_no (fun ⟨q1, q2, q3, q4⟩ => by first | (rw [hb13] at q1; cases q1; done) | (rw [hb13] at q4; cases q4; done) | omega | (rw [lastOf_t q1] at q3; omega))
   exact ⟨none, 0, 0, by rw [hx], by rw [hx]; exact (H14.sel [0, 2] (by decide) Z)⟩
  ·skip
   refine zg Z (Ex.not (b := true) Z) (zm bF Z (zm (J number) Z ?_))
   refine zc ((number : Int) < (0 : Int)) Z (fun r hr => Ex.lt Z Z hr) (fun h15 => ?_) (fun h15 => ?_)
   ·skip
    refine zF bT Z (zm bT Z (zo Z (zo Z (zo Z (zo Z (zT bT Z (zm bT Z (zo Z (zo Z (zo Z ?_))))))))))
    refine zo Z (zT bT Z (RL.nil (thn.n (Aa Z (CW.seq (CW.region (za (.slice none 0 0) Z (za bF Z (RL.nil (thn.n (CW.ret (thn.r (finQ.r (v := (.tuple #[(.slice none 0 0), bF])) (res2 Z Z Z) ?_)))))))))))))
    have H16 := H11.nil_ 33 17
    have hx : Co k number l = ([], false) := joinK_no (fun ⟨q1, q2, q3, q4⟩ => by first | (rw [hb13] at q1; cases q1; done) | (rw [hb13] at q4; cases q4; done) | omega | (rw [lastOf_t q1] at q3; omega))
    exact ⟨none, 0, 0, by rw [hx], by rw [hx]; exact (H16.sel [0, 2] (by decide) Z)⟩
   ·skip
    refine zF bF Z (zm bF Z (zm (J number) Z (zg Z (Ag Z (Ak (cs := [(J k.view), (J k.normal), (J k.base), (.string (tx k.image)), (.slice A n c)]) wh24 (H11.ob (i := 0) Z).cl)) (RL.call Tryz.call60 (lastR_ _ k A n c (by first | assumption | rfl | omega) hb13) Z Z Z ?_))))
    rintro _ w17 ⟨rfl, g18⟩
    have H19 := H11.grow g18
    have z20 := g18.size
    have hkt := keptB_t hb13
    have hlk : Dm k = k.base + k.ents.length := rfl
    refine zc (((Dm k) : Int) < (number : Int)) Z (fun r hr => Cv Z Z hr) (fun h21 => ?_) (fun h21 => ?_)
    ·skip
     refine zF bT Z (zm bT Z (zo Z (zo Z (zo Z (zo Z (zT bT Z (RL.nil (thn.n (Aa Z (CW.seq (CW.region (za (.slice none 0 0) Z (za bF Z (RL.nil (thn.n (CW.ret (thn.r ?_)))))))))))))))))
     refine finQ.r (v := (.tuple #[(.slice none 0 0), bF])) (res2 Z Z Z) ?_
     have H22 := H19.nil_ 33 17
     have hx : Co k number l = ([], false) := joinK_no (fun ⟨q1, q2, q3, q4⟩ => by first | (rw [hb13] at q1; cases q1; done) | (rw [hb13] at q4; cases q4; done) | omega | (rw [lastOf_t q1] at q3; omega))
     exact ⟨none, 0, 0, by rw [hx], by rw [hx]; exact (H22.sel [0, 2] (by decide) Z)⟩
    ·skip
     refine zF bF Z (zm bF Z (zm (.slice A2 n2 c2) Z (zm (J number) Z (RL.call Tryz.call91 (rowR_ _ _ l A2 n2 c2 number (hr2.st0 (H19.fix (i := 1) Z)) (by omega) (by first | rfl | assumption | omega) (by omega)) Z Z Z ?_))))
     rintro _ w23 ⟨rfl, g24⟩
     have H25 := H19.grow g24
     have z26 := g24.size
     rcases hb27 : (follB l number) with _ | _
     ·skip
      refine zg Z (Ex.not (b := false) Z) (zF bT Z (RL.nil (thn.n (Aa Z (CW.seq (CW.region (za (.slice none 0 0) Z (za bF Z (RL.nil (thn.n (CW.ret (thn.r (finQ.r (v := (.tuple #[(.slice none 0 0), bF])) (res2 Z Z Z) ?_)))))))))))))
      have H28 := H25.nil_ 33 17
      have hx : Co k number l = ([], false) := joinK_no (fun ⟨q1, q2, q3, q4⟩ => by first | (rw [hb13] at q1; cases q1; done) | (rw [hb27] at q4; cases q4; done) | omega | (rw [lastOf_t q1] at q3; omega))
      exact ⟨none, 0, 0, by rw [hx], by rw [hx]; exact (H28.sel [0, 2] (by decide) Z)⟩
     ·skip
      refine zg Z (Ex.not (b := true) Z) (zF bF Z (RL.nil (thn.n (Ad Z (CW.skip (thn.n (CW.seq (CW.region (za (.slice none 0 0) Z (RL.nil (thn.n (CW.seq (CW.seq (CW.region (za (J 0) Z (RL.nil (thn.n (CW.block ?_))))))))))))))))))
      have hx := joinK_yes hb13 (by omega) (by omega) hb27
      have H29 := H25.nil_ 33 17
      refine CW.loop (fun t => (Nat.ble 8 t && Nat.ble t 9) || (Nat.ble 29 t && Nat.ble t 50)) (fun nL ρ wl => ∃ (i n1 c1 : Nat) (A1 : Option Addr), ρ 9 = (J (i : Int)) ∧ ρ 8 = (.slice A1 n1 c1) ∧ nL = n2 - i ∧ Sp [At 33 17 A1 n1 c1 (recsE (((l.take i).filter (fun e => decide (Dm k < e.num))))), Ae b2 24 [(J k.view), (J k.normal), (J k.base), (.string (tx k.image)), (.slice A n c)], Bc w Bp] wl ∧ i ≤ n2 ∧ n1 ≤ i) (n2) ?aa0 ?bb0
      case aa0 =>
       exact ⟨0, 0, 0, none, Z, Z, Z, H29, Nat.zero_le _, Nat.le_refl _⟩
      case bb0 =>
       rintro n31 ρ0 w30 ho32 ⟨i, n1, c1, A1, hs0_9, hs0_8, hn0, H33, hi_, hn1⟩
       obtain ⟨j0, rfl⟩ := ho32.shape2 hs0_9 hs0_8
       clear ho32 hs0_9 hs0_8
       subst hn0
       have z34 := (H33.fix (i := 2) rfl).size
       refine CW.seq (CW.seq (CW.region (zm (J (i : Int)) Z (zm (.slice A2 n2 c2) Z (zg Z (Ex.len Tryz.underlying22 Z) ?_)))))
       refine zc (((i : Int) : Int) < ((n2 : Nat) : Int)) Z (fun r hr => Ex.lt Z Z hr) (fun h35 => ?_) (fun h35 => ?_)
       ·skip
        refine RL.nil (thn.n (Aa Z (CW.skip (thn.n (CW.seq (CW.block (CW.seq (Di (fun wq => Sp [At 33 17 A1 n1 c1 (recsE (((l.take i).filter (fun e => decide (Dm k < e.num))))), Ae b2 24 [(J k.view), (J k.normal), (J k.base), (.string (tx k.image)), (.slice A n c)], Bc w Bp] wq) Tryz.mixed Z ?_))))))))
        intro w36 g37
        have H38 := H33.grow g37
        have z39 := g37.size
        refine zr 0 1 Z (by kernel_rfl) H38 (fun wq hq => As (v := (.slice A2 n2 c2)) Z) (zr 1 3 Z (by kernel_rfl) H38 (fun wq hq => As (v := (J (i : Int))) Z) ?_)
        obtain ⟨e40, he41⟩ : ∃ e, (l)[i]? = some e := ⟨_, List.getElem?_eq_getElem (by omega)⟩
        obtain ⟨ad42, hA43⟩ := Rd.sm (hr2.st0 (H38.fix (i := 2) rfl)) (Bt he41)
        have hl44 := Eng.lt_len (Bt he41)
        refine zr 2 7 Z (by kernel_rfl) H38 (fun wq hq => Ck (b := (ad42.add (i * 11))) (i := i) Tryz.underlying22 Tryz.sizeOf31 (by rw [← hA43]; rfl) Z (by omega) (by omega) Z) (zr 3 15 Z (by kernel_rfl) H38 (fun wq hq => fa31_0 (b := ((ad42.add (i * 11)))) Z Z) (zr 4 31 Z (by kernel_rfl) H38 (fun wq hq => Ag Z (Av Bw (Cl.at_ (v := (J e40.num)) (Rd.cl (hr2.st0 (hq.fix (i := 2) Z)) hA43 (Bt he41)) (i := 0) Z))) (zr 5 63 Z (by kernel_rfl) H38 (fun wq hq => Ag Z (Ak (cs := [(J k.view), (J k.normal), (J k.base), (.string (tx k.image)), (.slice A n c)]) wh24 (hq.ob (i := 1) Z).cl)) (RA.one (i := 6) (by kernel_rfl) ?_))))
        refine ⟨_, 127, Z, by kernel_rfl, ?_⟩
        refine RL.call Tryz.call60 (lastR_ _ k A n c (by first | assumption | rfl | omega) hb13) Z Z Z ?_
        rintro _ w45 ⟨rfl, g46⟩
        have H47 := H38.grow g46
        have z48 := g46.size
        refine RL.nil ?_
        refine ⟨H47, ?_⟩
        refine zb 7 255 (((Dm k) : Int) < (e40.num : Int)) Z (by kernel_rfl) H47 (fun r hr wq hq => Cv Z Z hr) (fun h49 => ?_) (fun h49 => ?_)
        ·skip
         refine Bi (by kernel_rfl) (thn.n (Aa Z (CW.region (zm (.slice A1 n1 c1) Z (zm (.slice A2 n2 c2) Z (zm (J (i : Int)) Z ?_))))))
         obtain ⟨ad50, hA51⟩ := Rd.sm (hr2.st0 (H47.fix (i := 2) rfl)) (Bt he41)
         have hl52 := Eng.lt_len (Bt he41)
         refine zg Z (Ck (b := (ad50.add (i * 11))) (i := i) Tryz.underlying22 Tryz.sizeOf31 (by rw [← hA51]; rfl) Z (by omega) (by omega) Z) (zg Z (Ag Z (Ak (cs := e40.cells) wh31 (Rd.cl (hr2.st0 (H47.fix (i := 2) Z)) hA51 (Bt he41)))) (zg Z (Ce (cs := [(J 2), (J 0), (J 0), (J 0), (.string (⟨#[]⟩)), (J e40.num), (J e40.view), (J e40.client), (J e40.seq), (J e40.op.kind), (J e40.op.h), (J e40.op.i), (J e40.op.n), (J e40.op.k), (J e40.op.v), (J e40.op.t), (.slice none 0 0)]) bd33 Z) (RL.bs (cs := [(J 2), (J 0), (J 0), (J 0), (.string (⟨#[]⟩)), (J e40.num), (J e40.view), (J e40.client), (J e40.seq), (J e40.op.kind), (J e40.op.h), (J e40.op.i), (J e40.op.n), (J e40.op.k), (J e40.op.v), (J e40.op.t), (.slice none 0 0)]) Tryz.underlying84 Tryz.sizeOf33 ze84 Z Z Z (by decide) Z Z Z ?_)))
         intro w53 b54 hb55 hz56 g57 o58
         have H59 := H47.newB g57 o58 (by omega)
         have z60 := g57.size
         refine RL.apW (base := 0) (xss := (recsE (((l.take i).filter (fun e => decide (Dm k < e.num)))))) (yss := (recsE ([e40]))) el84 (H59.wr (i := 1) Z) Z (Do (H59.ob (i := 0) Z) Z) Z (by simp only [Ap, Ar, Aq, Aj, Ai, Au, List.length_append, List.length_cons, List.length_nil, List.length_take, List.length_drop, List.length_map, Cq, Dk, Be, Bg, Cw]; try omega) (recsE_one _) (by omega) (by omega) (by omega) Z Z ?_
         intro w61 A62 c63 g65 ow66 nx67
         have H68 : Sp [Ae b54 33 [(J 2), (J 0), (J 0), (J 0), (.string (⟨#[]⟩)), (J e40.num), (J e40.view), (J e40.client), (J e40.seq), (J e40.op.kind), (J e40.op.h), (J e40.op.i), (J e40.op.n), (J e40.op.k), (J e40.op.v), (J e40.op.t), (.slice none 0 0)], At 33 17 A62 (n1 + 1) c63 (recsE (((l.take i).filter (fun e => decide (Dm k < e.num))) ++ [e40])), Ae b2 24 [(J k.view), (J k.normal), (J k.base), (.string (tx k.image)), (.slice A n c)], Bc w Bp] w61 := H59.setR (i := 1) rfl g65 ((recsE_app _ _).symm ▸ ow66) nx67 rfl
         have z69 := g65.size
         refine za (.slice A62 (n1 + 1) c63) Z (RL.nil (inB.n (thn.n (CW.region (zm (J (i : Int)) Z (zg Z (Ex.add (r := (i : Int) + 1) Z Z (Dd (by omega) (by omega))) (za (J ((i : Int) + 1)) Z (RL.nil (thn.n ?_)))))))))
         have H70 : Sp [Ae b54 33 [(J 2), (J 0), (J 0), (J 0), (.string (⟨#[]⟩)), (J e40.num), (J e40.view), (J e40.client), (J e40.seq), (J e40.op.kind), (J e40.op.h), (J e40.op.i), (J e40.op.n), (J e40.op.k), (J e40.op.v), (J e40.op.t), (.slice none 0 0)], At 33 17 A62 (n1 + 1) c63 (recsE (((l.take (i + 1)).filter (fun e => decide (Dm k < e.num))))), Ae b2 24 [(J k.view), (J k.normal), (J k.base), (.string (tx k.image)), (.slice A n c)], Bc w Bp] w61 := H68.eqR (i := 1) rfl rfl (by rw [filter_snoc he41, if_pos (by simpa using h49)]) rfl
         refine ⟨(by repeat (first | exact Out.mix _ _ | exact Out.refl _ _ | refine Bf ?_ Z _ | refine Ch ?_ (by intro t ht; simp only [Bool.or_eq_false_iff, Bool.and_eq_false_iff, ble_f, beq_f] at ht ⊢; omega))), _, ?_, i + 1, n1 + 1, c63, A62, Z, Z, Z, (H70.sel [1, 2, 3] (by decide) Z), by omega, by omega⟩
         omega
        ·skip
         refine Bi (by kernel_rfl) (thn.n (Ad Z (CW.skip (inB.n (thn.n (CW.region (zm (J (i : Int)) Z (zg Z (Ex.add (r := (i : Int) + 1) Z Z (Dd (by omega) (by omega))) (za (J ((i : Int) + 1)) Z (RL.nil (thn.n ?_)))))))))))
         have H71 : Sp [At 33 17 A1 n1 c1 (recsE (((l.take (i + 1)).filter (fun e => decide (Dm k < e.num))))), Ae b2 24 [(J k.view), (J k.normal), (J k.base), (.string (tx k.image)), (.slice A n c)], Bc w Bp] w45 := H47.eqR (i := 0) rfl rfl (by rw [filter_snoc he41, if_neg (by simpa using h49), List.append_nil]) rfl
         refine ⟨(by repeat (first | exact Out.mix _ _ | exact Out.refl _ _ | refine Bf ?_ Z _ | refine Ch ?_ (by intro t ht; simp only [Bool.or_eq_false_iff, Bool.and_eq_false_iff, ble_f, beq_f] at ht ⊢; omega))), _, ?_, i + 1, n1, c1, A1, Z, Z, Z, H71, by omega, by omega⟩
         omega
       ·skip
        refine RL.nil (thn.n (Ad Z (CW.exit (thn.x (thn.x (Bh (thn.n (CW.seq (CW.region (zm (.slice A1 n1 c1) Z (za (.slice A1 n1 c1) Z (za bT Z (RL.nil (thn.n (CW.ret (finQ.r (v := (.tuple #[(.slice A1 n1 c1), bT])) (res2 Z Z Z) ?_))))))))))))))))
        have hkk : l.take i = l := List.take_of_length_le (by omega)
        rw [hkk] at H33
        exact ⟨_, _, _, by rw [hx], by rw [hx]; exact (H33.sel [0, 2] (by decide) Z)⟩
set_option maxHeartbeats 1000000 in
set_option maxRecDepth 20000 in
theorem recordsR_ (w : World) (B : Nat) (l m : List Entry) (A A2 : Option Addr) (n c n2 c2 : Nat) (hr : Rd w B 17 A (recsE l)) (hn : n = l.length) (hr2 : Rd w B 17 A2 (recsE m)) (hn2 : n2 = m.length) (hm : n ≤ 1000000) : Ret Tryz.prog 66 [(.slice A n c), (.slice A2 n2 c2)] w (fun v w' => v = .bool (decide (l = m)) ∧ w.grownBy w' none) := by
  have H0 : Sp [Bc w Bp] w := Bl w
  refine Ret.body Tryz.func66 Z Z Z ?_
  refine CW.seq (CW.region (za bF Z (RL.nil (thn.n (CW.seq (CW.seq (CW.region (zm (.slice A n c) Z (zg Z (Ex.len Tryz.underlying84 Z) (zm (.slice A2 n2 c2) Z (zg Z (Ex.len Tryz.underlying84 Z) ?_)))))))))))
  refine zc (((n : Nat) : Int) ≠ ((n2 : Nat) : Int)) Z (fun r hr => Cd Z Z hr) (fun h1 => ?_) (fun h1 => ?_)
  ·skip
   refine RL.nil (thn.n (Aa Z (CW.seq (CW.region (za bF Z (RL.nil (thn.n (CW.ret (thn.r (finQ.r (v := bF) (Ax Z Z) ?_))))))))))
   exact ⟨An (by symm; rw [decide_eq_false_iff_not]; intro h; rw [h] at hn; omega), (H0.fix (i := 0) Z)⟩
  ·skip
   refine RL.nil (thn.n (Ad Z (CW.skip (thn.n (CW.seq (CW.seq (CW.region (za (J 0) Z (RL.nil (thn.n (CW.block ?_)))))))))))
   refine CW.loop (fun t => (Nat.ble 4 t && Nat.ble t 5) || (Nat.ble 11 t && Nat.ble t 26)) (fun nL ρ wl => ∃ (i : Nat), ρ 5 = (J (i : Int)) ∧ nL = n - i ∧ Sp [Bc w Bp] wl ∧ i ≤ n ∧ l.take i = m.take i) (n) ?aa0 ?bb0
   case aa0 =>
    exact ⟨0, Z, Z, H0, Nat.zero_le _, Z⟩
   case bb0 =>
    rintro n3 ρ0 w2 ho4 ⟨i, hs0_5, hn0, H5, hi, htk⟩
    obtain ⟨j0, rfl⟩ := ho4.shape1 hs0_5
    clear ho4 hs0_5
    subst hn0
    have z6 := (H5.fix (i := 0) rfl).size
    refine CW.seq (CW.seq (CW.region (zm (J (i : Int)) Z (zm (.slice A n c) Z (zg Z (Ex.len Tryz.underlying84 Z) ?_)))))
    refine zc (((i : Int) : Int) < ((n : Nat) : Int)) Z (fun r hr => Ex.lt Z Z hr) (fun h7 => ?_) (fun h7 => ?_)
    ·skip
     refine RL.nil (thn.n (Aa Z (CW.skip (thn.n (CW.seq (CW.block (CW.seq (Di (fun wq => Sp [Bc w Bp] wq) Tryz.mixed Z ?_))))))))
     intro w8 g9
     have H10 := H5.grow g9
     have z11 := g9.size
     refine zr 0 1 Z (by kernel_rfl) H10 (fun wq hq => As (v := (.slice A n c)) Z) (zr 1 3 Z (by kernel_rfl) H10 (fun wq hq => As (v := (J (i : Int))) Z) (zr 4 19 Z (by kernel_rfl) H10 (fun wq hq => As (v := (.slice A2 n2 c2)) Z) (zr 5 51 Z (by kernel_rfl) H10 (fun wq hq => As (v := (J (i : Int))) Z) ?_)))
     obtain ⟨e12, he13⟩ : ∃ e, (l)[i]? = some e := ⟨_, List.getElem?_eq_getElem (by omega)⟩
     obtain ⟨ad14, hA15⟩ := Rd.sm (hr.st0 (H10.fix (i := 0) rfl)) (recsE_get he13)
     have hl16 := Eng.lt_len (recsE_get he13)
     refine zr 2 55 Z (by kernel_rfl) H10 (fun wq hq => Ck (b := (ad14.add (i * 17))) (i := i) Tryz.underlying84 Tryz.sizeOf33 (by rw [← hA15]; rfl) Z (by omega) (by omega) Z) (zr 3 63 Z (by kernel_rfl) H10 (fun wq hq => Ag Z (Ak (cs := (laidC e12)) wh33 (Rd.cl (hr.st0 (hq.fix (i := 0) Z)) hA15 (recsE_get he13)))) ?_)
     obtain ⟨e17, he18⟩ : ∃ e, (m)[i]? = some e := ⟨_, List.getElem?_eq_getElem (by omega)⟩
     obtain ⟨ad19, hA20⟩ := Rd.sm (hr2.st0 (H10.fix (i := 0) rfl)) (recsE_get he18)
     have hl21 := Eng.lt_len (recsE_get he18)
     refine zr 6 127 Z (by kernel_rfl) H10 (fun wq hq => Ck (b := (ad19.add (i * 17))) (i := i) Tryz.underlying84 Tryz.sizeOf33 (by rw [← hA20]; rfl) Z (by omega) (by omega) Z) (zr 7 255 Z (by kernel_rfl) H10 (fun wq hq => Ag Z (Ak (cs := (laidC e17)) wh33 (Rd.cl (hr2.st0 (hq.fix (i := 0) Z)) hA20 (recsE_get he18)))) (RA.one (i := 8) (by kernel_rfl) ?_))
     refine ⟨_, 511, Z, by kernel_rfl, ?_⟩
     refine RL.call Tryz.call27 (sameRec_ _ w8.heap.size (⟨2, 0, 0, 0, [], e12, []⟩ : Rec) (⟨2, 0, 0, 0, [], e17, []⟩ : Rec) none none 0 0 0 0 (Rd.nil_ _ _ 11 none) (Rd.nil_ _ _ 11 none) (Nat.le_refl _) (by first | assumption | rfl | omega) (by first | assumption | rfl | omega) (by omega)) Z Z Z ?_
     rintro _ w22 ⟨rfl, g23⟩
     have H24 := H10.grow g23
     have z25 := g23.size
     rcases hb26 : (decide ((⟨2, 0, 0, 0, [], e12, []⟩ : Rec) = (⟨2, 0, 0, 0, [], e17, []⟩ : Rec))) with _ | _
     ·skip
      refine RL.nil ?_
      refine ⟨H24, ?_⟩
      refine zr 9 1023 Z (by kernel_rfl) H24 (fun wq hq => Ex.not (b := false) Z) (Bi (by kernel_rfl) (thn.n (Aa Z (CW.seq (CW.region (za bF Z (RL.nil (thn.n (CW.ret (inB.r (thn.r (thn.r (inB.r (thn.r (finQ.r (v := bF) (Ax Z Z) ?_)))))))))))))))
      exact ⟨An (by symm; rw [decide_eq_false_iff_not]; exact ne_at he13 he18 (fun h => of_decide_eq_false hb26 (by rw [h]))), (H24.fix (i := 0) Z)⟩
     ·skip
      refine RL.nil ?_
      refine ⟨H24, ?_⟩
      refine zr 9 1023 Z (by kernel_rfl) H24 (fun wq hq => Ex.not (b := true) Z) (Bi (by kernel_rfl) (thn.n (Ad Z (CW.skip (inB.n (thn.n (CW.region (zm (J (i : Int)) Z (zg Z (Ex.add (r := (i : Int) + 1) Z Z (Dd (by omega) (by omega))) (za (J ((i : Int) + 1)) Z (RL.nil (thn.n ?_))))))))))))
      refine ⟨(by repeat (first | exact Out.mix _ _ | exact Out.refl _ _ | refine Bf ?_ Z _ | refine Ch ?_ (by intro t ht; simp only [Bool.or_eq_false_iff, Bool.and_eq_false_iff, ble_f, beq_f] at ht ⊢; omega))), _, ?_, i + 1, Z, Z, H24, by omega, take_same htk he13 he18 (laid_eq (of_decide_eq_true hb26))⟩
      omega
    ·skip
     refine RL.nil (thn.n (Ad Z (CW.exit (thn.x (thn.x (Bh (thn.n (CW.seq (CW.region (za bT Z (RL.nil (thn.n (CW.ret (finQ.r (v := bT) (Ax Z Z) ?_))))))))))))))
     exact ⟨An (by symm; rw [decide_eq_true_eq]; rw [← List.take_of_length_le (i := i) (l := l) (by omega), htk, List.take_of_length_le (by omega)]), (H5.fix (i := 0) Z)⟩
end Go.Proofs.YtfokljnhllflbaaGreat
namespace Go.Proofs.YtfokljnhllflbaaGreat
open Go Go.Eng Go.RowKit
set_option maxHeartbeats 2000000 in
set_option maxRecDepth 20000 in
theorem prepareJoins_ (w : World) (B : Nat) (k : Kept) (A : Option Addr) (n c : Nat) (hr : Rd w B 11 A (ents k.ents)) (hB : B ≤ w.heap.size) (hn : n = k.ents.length) (hc : n ≤ c) (number : Int) (l : List Entry) (A2 : Option Addr) (n2 c2 : Nat) (hr2 : Rd w B 11 A2 (ents l)) (hn2 : n2 = l.length) (hc2 : n2 ≤ c2) (commit client seq : Int) : Ret Tryz.prog 13 [(.agg ([(J k.view), (J k.normal), (J k.base), (.string (tx k.image)), (.slice A n c)]).toArray), (J number), (.slice A2 n2 c2), (J commit), (J client), (J seq)] w (fun v w' => v = .bool true ∧ w.grownBy w' none) := by
  have H0 : Sp [Bc w Bp] w := Bl w
  refine Ret.body Tryz.func13 Z Z Z ?_
  refine CW.seq (CW.region (RL.bx (cs := [(J k.view), (J k.normal), (J k.base), (.string (tx k.image)), (.slice A n c)]) Z Z Z ?_))
  intro w1 b2 hb3 hz4 g5 o6
  have H7 := H0.newB g5 o6 (by omega)
  have z8 := g5.size
  refine za bF Z (RL.nil (thn.n (CW.seq (CW.seq (CW.region (zg Z (Ag Z (Ak (cs := [(J k.view), (J k.normal), (J k.base), (.string (tx k.image)), (.slice A n c)]) wh24 (H7.ob (i := 0) Z).cl)) (zm (.slice A2 n2 c2) Z (zg Z (Ce (cs := [(J 0), (J 0), (J 0), (J 0), (.string (⟨#[]⟩)), (J 0), (J 0), (J 0), (J 0), (J 0), (J 0), (J 0), (J 0), (J 0), (J 0), (J 0), (.slice A2 n2 c2)]) bd33 Z) (RL.call Tryz.call23 (big15 _ k A n c (by first | assumption | rfl | omega) (⟨0, 0, 0, 0, [], (⟨0, 0, 0, 0, ⟨0, 0, 0, 0, 0, 0, 0⟩⟩ : Entry), l⟩ : Rec) A2 n2 c2 (by first | assumption | rfl | omega)) Z Z Z ?_)))))))))
  rintro _ w9 ⟨rfl, g10⟩
  have H11 := H7.grow g10
  have z12 := g10.size
  rcases hb13 : (bigK k (⟨0, 0, 0, 0, [], (⟨0, 0, 0, 0, ⟨0, 0, 0, 0, 0, 0, 0⟩⟩ : Entry), l⟩ : Rec)) with _ | _
  ·obtain ⟨hbg1, hbg2, hbg3, hbg4⟩ := bigK_f hb13
   refine RL.nil (thn.n (Ad Z (CW.skip (thn.n (CW.seq (CW.region ?_))))))
   have hbl : l.length ≤ 300 := hbg2
   refine zg Z (Ag Z (Ak (cs := [(J k.view), (J k.normal), (J k.base), (.string (tx k.image)), (.slice A n c)]) wh24 (H11.ob (i := 0) Z).cl)) (RL.call Tryz.call24 (own15_ _ w9.heap.size k A n c ((hr.st0 (H11.fix (i := 1) Z)).more (by omega)) (Nat.le_refl _) (by first | assumption | rfl | omega) (by omega)) Z Z Z ?_)
   rintro _ w17 ⟨A14, n15, c16, rfl, g18⟩
   have g19 := g18.fix (i := 1) rfl
   have H20 : Sp [At 31 11 A14 n15 c16 (ents k.ents), Ae b2 24 [(J k.view), (J k.normal), (J k.base), (.string (tx k.image)), (.slice A n c)], Bc w Bp] w17 := H11.join (m := [At 31 11 A14 n15 c16 (ents k.ents)]) g18
   have z21 := g19.size
   refine RL.al (cs := [(J 0), (J 0), (J 0), (.string (⟨#[]⟩)), (.slice none 0 0)]) Tryz.zeroValue24 Z Z Z ?_
   intro w22 b23 hb24 hz25 g26 o27
   have H28 := H20.newB g26 o27 (by omega)
   have z29 := g26.size
   refine RL.st (vs := [(J k.view), (J k.normal), (J k.base), (.string (tx k.image)), (.slice A14 n15 c16)]) (cs' := [(J k.view), (J k.normal), (J k.base), (.string (tx k.image)), (.slice A14 n15 c16)]) Tryz.sizeOf24 (H28.ob (i := 0) Z) Z Z Z Z Z Z ?_
   intro w30 hz31 g32 o33
   have H34 : Sp [Ae b23 24 [(J k.view), (J k.normal), (J k.base), (.string (tx k.image)), (.slice A14 n15 c16)], At 31 11 A14 n15 c16 (ents k.ents), Ae b2 24 [(J k.view), (J k.normal), (J k.base), (.string (tx k.image)), (.slice A n c)], Bc w Bp] w30 := H28.setB (i := 0) rfl g32 o33 rfl
   have z35 := g32.size
   refine RL.nil (thn.n (CW.seq (CW.region (za (.slice none 0 0) Z (RL.nil (thn.n (CW.seq (CW.region (zm (.slice none 0 0) Z (zm (.slice A2 n2 c2) Z ?_))))))))))
   have H36 := H34.nil_ 31 11
   refine RL.apW (base := 0) (xss := (ents [])) (yss := (ents l)) el22 (H36.wr (i := 0) Z) Z (hr2.st0 (H36.fix (i := 4) Z)) Z (by simp only [Ap, Ar, Aq, Aj, Ai, Au, List.length_append, List.length_cons, List.length_nil, List.length_take, List.length_drop, List.length_map, Cq, Dk, Be, Bg, Cw]; try omega) (ents_one _) (by omega) (by omega) (by omega) Z Z ?_
   intro w37 A38 c39 g40 ow41 nx42
   have H43 : Sp [At 31 11 A38 (0 + n2) c39 (ents l), Ae b23 24 [(J k.view), (J k.normal), (J k.base), (.string (tx k.image)), (.slice A14 n15 c16)], At 31 11 A14 n15 c16 (ents k.ents), Ae b2 24 [(J k.view), (J k.normal), (J k.base), (.string (tx k.image)), (.slice A n c)], Bc w Bp] w37 := H36.setR (i := 0) rfl g40 ((List.nil_append _) ▸ ow41) nx42 rfl
   have z44 := g40.size
   refine za (.slice A38 (0 + n2) c39) Z (RL.nil (thn.n (CW.seq (CW.region (zg Z (Ag Z (Ak (cs := [(J k.view), (J k.normal), (J k.base), (.string (tx k.image)), (.slice A n c)]) wh24 (H43.ob (i := 3) Z).cl)) (zm (J number) Z (zm (.slice A2 n2 c2) Z (RL.call Tryz.call63 (join_ _ w37.heap.size k A n c ((hr.st0 (H43.fix (i := 4) Z)).more (by omega)) (by omega) (by first | assumption | rfl | omega | decide +kernel) (by first | assumption | rfl | omega | decide +kernel) (by first | assumption | rfl | omega | decide +kernel) (by first | assumption | rfl | omega | decide +kernel) number l A2 n2 c2 ((hr2.st0 (H43.fix (i := 4) Z)).more (by omega)) (by first | assumption | rfl | omega | decide +kernel) (by first | assumption | rfl | omega | decide +kernel)) Z Z Z ?_))))))))
   rintro _ w48 ⟨A45, n46, c47, rfl, g49⟩
   have g50 := g49.fix (i := 1) rfl
   have H51 : Sp [At 33 17 A45 n46 c47 (recsE ((Co k number l).1)), At 31 11 A38 (0 + n2) c39 (ents l), Ae b23 24 [(J k.view), (J k.normal), (J k.base), (.string (tx k.image)), (.slice A14 n15 c16)], At 31 11 A14 n15 c16 (ents k.ents), Ae b2 24 [(J k.view), (J k.normal), (J k.base), (.string (tx k.image)), (.slice A n c)], Bc w Bp] w48 := H43.join (m := [At 33 17 A45 n46 c47 (recsE ((Co k number l).1))]) g49
   have z52 := g50.size
   refine zm (.tuple #[(.slice A45 n46 c47), (.bool ((Co k number l).2))]) Z (zx (.slice A45 n46 c47) Z (zx (.bool ((Co k number l).2)) Z (za (.slice A45 n46 c47) Z (za (.bool ((Co k number l).2)) Z (RL.nil (thn.n (CW.seq (CW.region (zg Z (Ag Z (Ak (cs := [(J k.view), (J k.normal), (J k.base), (.string (tx k.image)), (.slice A14 n15 c16)]) wh24 (H51.ob (i := 2) Z).cl)) (zm (J number) Z (zm (.slice A38 (0 + n2) c39) Z ?_)))))))))))
   have hl53 := H51.len (i := 3) rfl
   rw [Au] at hl53
   have hl54 := H51.len (i := 3) rfl
   rw [Au] at hl54
   have hc55 := H51.cap (i := 3) rfl
   have hl56 := H51.len (i := 1) rfl
   rw [Au] at hl56
   refine RL.call Tryz.call65 (joinR_ _ w48.heap.size k A14 n15 c16 ((H51.rowrd (i := 3) Z).more (Nat.le_refl _)) (Nat.le_refl _) (by first | assumption | rfl | omega) (by omega) (by first | assumption | rfl | omega) (by omega) number l A38 (0 + n2) c39 ((H51.rowrd (i := 1) Z).more (Nat.le_refl _)) (by first | assumption | rfl | omega) (by first | assumption | rfl | omega)) Z Z Z ?_
   rintro _ w60 ⟨A57, n58, c59, rfl, g61⟩
   have g62 := g61.fix (i := 1) rfl
   have H63 : Sp [At 33 17 A57 n58 c59 (recsE ((Co k number l).1)), At 33 17 A45 n46 c47 (recsE ((Co k number l).1)), At 31 11 A38 (0 + n2) c39 (ents l), Ae b23 24 [(J k.view), (J k.normal), (J k.base), (.string (tx k.image)), (.slice A14 n15 c16)], At 31 11 A14 n15 c16 (ents k.ents), Ae b2 24 [(J k.view), (J k.normal), (J k.base), (.string (tx k.image)), (.slice A n c)], Bc w Bp] w60 := H51.join (m := [At 33 17 A57 n58 c59 (recsE ((Co k number l).1))]) g61
   have z65 := g62.size
   refine zm (.tuple #[(.slice A57 n58 c59), (.bool ((Co k number l).2))]) Z (zx (.slice A57 n58 c59) Z (zx (.bool ((Co k number l).2)) Z (za (.slice A57 n58 c59) Z (za (.bool ((Co k number l).2)) Z (RL.nil (thn.n (CW.seq ?_)))))))
   have hjl := joinK_len k number l
   refine Di (fun wq => Sp [At 33 17 A57 n58 c59 (recsE ((Co k number l).1)), At 33 17 A45 n46 c47 (recsE ((Co k number l).1)), At 31 11 A38 (0 + n2) c39 (ents l), Ae b23 24 [(J k.view), (J k.normal), (J k.base), (.string (tx k.image)), (.slice A14 n15 c16)], At 31 11 A14 n15 c16 (ents k.ents), Ae b2 24 [(J k.view), (J k.normal), (J k.base), (.string (tx k.image)), (.slice A n c)], Bc w Bp] wq) Tryz.mixed Z ?_
   intro w66 g67
   have H68 := H63.grow g67
   have z69 := g67.size
   refine RA.one (i := 0) (by kernel_rfl) ?_
   refine ⟨_, 1, Z, by kernel_rfl, ?_⟩
   refine RL.call Tryz.call64 (joins16 _) Z Z Z ?_
   rintro _ w70 ⟨rfl, g71⟩
   have H72 := H68.grow g71
   have z73 := g71.size
   refine RL.nil ?_
   refine ⟨H72, ?_⟩
   refine zr 1 3 Z (by kernel_rfl) H72 (fun wq hq => As (v := bT) Z) (zr 2 7 Z (by kernel_rfl) H72 (fun wq hq => As (v := (.bool ((Co k number l).2))) Z) (zr 3 15 Z (by kernel_rfl) H72 (fun wq hq => As (v := (.bool ((Co k number l).2))) Z) (zr 4 31 Z (by kernel_rfl) H72 (fun wq hq => Ex.eqB (r := true) Tryz.underlying4 Z Z (by simp)) (zr 5 63 Z (by kernel_rfl) H72 (fun wq hq => Bs (v := bT) Z Z) (zr 6 127 Z (by kernel_rfl) H72 (fun wq hq => As (v := bT) Z) (zr 7 255 Z (by kernel_rfl) H72 (fun wq hq => As (v := (.slice A45 n46 c47)) Z) (zr 8 511 Z (by kernel_rfl) H72 (fun wq hq => As (v := (.slice A57 n58 c59)) Z) (RA.one (i := 9) (by kernel_rfl) ?_))))))))
   refine ⟨_, 1023, Z, by kernel_rfl, ?_⟩
   have hl74 := H72.len (i := 1) rfl
   rw [Cw] at hl74
   have hl75 := H72.len (i := 0) rfl
   rw [Cw] at hl75
   refine RL.call Tryz.call66 ((Ret.sure (recordsR_ _ _ ((Co k number l).1) ((Co k number l).1) A45 A57 n46 c47 n58 c59 ((H72.rowrd (i := 1) Z).more (Nat.le_refl _)) (by first | assumption | rfl | omega) ((H72.rowrd (i := 0) Z).more (Nat.le_refl _)) (by first | assumption | rfl | omega) (by omega)) (decide_eq_true Z))) Z Z Z ?_
   rintro _ w76 ⟨rfl, g77⟩
   have H78 := H72.grow g77
   have z79 := g77.size
   refine RL.nil ?_
   refine ⟨H78, ?_⟩
   refine zr 10 2047 Z (by kernel_rfl) H78 (fun wq hq => Bs (v := bT) Z Z) (zr 11 4095 Z (by kernel_rfl) H78 (fun wq hq => As (v := bT) Z) (zr 13 12287 Z (by kernel_rfl) H78 (fun wq hq => As (v := (J commit)) Z) (zr 14 28671 Z (by kernel_rfl) H78 (fun wq hq => As (v := (J client)) Z) (zr 15 61439 Z (by kernel_rfl) H78 (fun wq hq => As (v := (J seq)) Z) (zr 18 323583 Z (by kernel_rfl) H78 (fun wq hq => As (v := (J commit)) Z) (zr 19 847871 Z (by kernel_rfl) H78 (fun wq hq => As (v := (J client)) Z) (zr 20 1896447 Z (by kernel_rfl) H78 (fun wq hq => As (v := (J seq)) Z) (zr 12 1900543 Z (by kernel_rfl) H78 (fun wq hq => Ag Z (Ak (cs := [(J k.view), (J k.normal), (J k.base), (.string (tx k.image)), (.slice A n c)]) wh24 (hq.ob (i := 5) Z).cl)) (zr 17 2031615 Z (by kernel_rfl) H78 (fun wq hq => Ag Z (Ak (cs := [(J k.view), (J k.normal), (J k.base), (.string (tx k.image)), (.slice A14 n15 c16)]) wh24 (hq.ob (i := 3) Z).cl)) ?_)))))))))
   refine RA.one (i := 16) (by kernel_rfl) ?_
   refine ⟨_, 2097151, Z, by kernel_rfl, ?_⟩
   refine RL.call Tryz.call67 (knownK_ _ w76.heap.size k A n c ((hr.st0 (H78.fix (i := 6) Z)).more (by omega)) (Nat.le_refl _) (by first | assumption | rfl | omega) (by omega) (by first | assumption | rfl | omega) (by omega) commit client seq) Z Z Z ?_
   rintro _ w80 ⟨rfl, g81⟩
   have H82 := H78.grow g81
   have z83 := g81.size
   refine RL.nil ?_
   refine ⟨H82, ?_⟩
   refine RA.one (i := 21) (by kernel_rfl) ?_
   refine ⟨_, 4194303, Z, by kernel_rfl, ?_⟩
   have hl84 := H82.len (i := 4) rfl
   rw [Au] at hl84
   have hl85 := H82.len (i := 4) rfl
   rw [Au] at hl85
   have hc86 := H82.cap (i := 4) rfl
   refine RL.call Tryz.call68 (knownR_ _ w80.heap.size k A14 n15 c16 ((H82.rowrd (i := 4) Z).more (Nat.le_refl _)) (Nat.le_refl _) (by first | assumption | rfl | omega) (by omega) (by first | assumption | rfl | omega) (by omega) commit client seq) Z Z Z ?_
   rintro _ w87 ⟨rfl, g88⟩
   have H89 := H82.grow g88
   have z90 := g88.size
   refine RL.nil ?_
   refine ⟨H89, ?_⟩
   refine zr 22 8388607 Z (by kernel_rfl) H89 (fun wq hq => Ex.eqB (r := true) Tryz.underlying4 Z Z (by simp)) (zr 23 16777215 Z (by kernel_rfl) H89 (fun wq hq => Bs (v := bT) Z Z) (zr 24 33554431 Z (by kernel_rfl) H89 (fun wq hq => As (v := bT) Z) (zr 25 67108863 Z (by kernel_rfl) H89 (fun wq hq => Ag Z (Ak (cs := [(J k.view), (J k.normal), (J k.base), (.string (tx k.image)), (.slice A n c)]) wh24 (hq.ob (i := 5) Z).cl)) (zr 26 134217727 Z (by kernel_rfl) H89 (fun wq hq => Ag Z (Ak (cs := [(J k.view), (J k.normal), (J k.base), (.string (tx k.image)), (.slice A14 n15 c16)]) wh24 (hq.ob (i := 3) Z).cl)) (RA.one (i := 27) (by kernel_rfl) ?_)))))
   refine ⟨_, 268435455, Z, by kernel_rfl, ?_⟩
   have hl91 := H89.len (i := 4) rfl
   rw [Au] at hl91
   refine RL.call Tryz.call30 ((Ret.sure (same15_ _ w87.heap.size k k A A14 n c n15 c16 ((hr.st0 (H89.fix (i := 6) Z)).more (by omega)) ((H89.rowrd (i := 4) Z).more (Nat.le_refl _)) (Nat.le_refl _) (by first | assumption | rfl | omega) (by first | assumption | rfl | omega) (by omega)) (decide_eq_true Z))) Z Z Z ?_
   rintro _ w92 ⟨rfl, g93⟩
   have H94 := H89.grow g93
   have z95 := g93.size
   refine RL.nil ?_
   refine ⟨H94, ?_⟩
   refine zr 28 536870911 Z (by kernel_rfl) H94 (fun wq hq => Bs (v := bT) Z Z) (zr 29 1073741823 Z (by kernel_rfl) H94 (fun wq hq => As (v := bT) Z) (zr 30 2147483647 Z (by kernel_rfl) H94 (fun wq hq => As (v := (.slice A2 n2 c2)) Z) (zr 31 4294967295 Z (by kernel_rfl) H94 (fun wq hq => As (v := (.slice A38 (0 + n2) c39)) Z) (RA.one (i := 32) (by kernel_rfl) ?_))))
   refine ⟨_, 8589934591, Z, by kernel_rfl, ?_⟩
   have hl96 := H94.len (i := 2) rfl
   rw [Au] at hl96
   refine RL.call Tryz.call31 ((Ret.sure (entSameR_ _ _ l l A2 A38 n2 c2 (0 + n2) c39 ((hr2.st0 (H94.fix (i := 6) Z)).more (by omega)) (by first | assumption | rfl | omega) ((H94.rowrd (i := 2) Z).more (Nat.le_refl _)) (by first | assumption | rfl | omega) (by omega)) (decide_eq_true Z))) Z Z Z ?_
   rintro _ w97 ⟨rfl, g98⟩
   have H99 := H94.grow g98
   have z100 := g98.size
   refine RL.nil ?_
   refine ⟨H99, ?_⟩
   refine zr 33 17179869183 Z (by kernel_rfl) H99 (fun wq hq => Bs (v := bT) Z Z) (zr 34 34359738367 Z (by kernel_rfl) H99 (fun wq hq => Ex.as (v := bT) Z) (Bi (by kernel_rfl) (thn.n (CW.ret (finQ.r (v := bT) (Ax Z Z) ?_)))))
   exact ⟨Z, (H99.fix (i := 6) Z)⟩
  ·skip
   refine RL.nil (thn.n (Aa Z (CW.seq (CW.region (za bT Z (RL.nil (thn.n (CW.ret (thn.r (finQ.r (v := bT) (Ax Z Z) ?_))))))))))
   exact ⟨Z, (H11.fix (i := 1) Z)⟩
end Go.Proofs.YtfokljnhllflbaaGreat
namespace Go.Proofs.YtfokljnhllflbaaGreat
open Go
set_option maxRecDepth 100000
def sp : Char := Char.ofNat 32
theorem ws_app (r : List Char) : ∀ (a : List Char), (a.all fun c => c != sp) = true → wordsSigns (a ++ sp :: r) = a :: wordsSigns r
  | [], _ => rfl
  | c :: a, h => by
    simp only [List.all_cons, Bool.and_eq_true, bne_iff_ne, ne_eq] at h
    have ih := ws_app r a h.2
    rw [List.cons_append]
    conv => lhs; unfold wordsSigns
    split
    · rename_i e; cases e
    · rename_i e; injection e with e1 _; exact absurd e1 h.1
    · rename_i c' r' hne e
      injection e with e1 e2
      subst e1
      rw [← e2, ih]
theorem io_eq : Tryz.prog.initOrder.toList = "harness".toList ++ sp :: ("e992cc6d704afc89758aaf8fd9a77071690771db51468eeba60045f0eed610c9".toList ++ sp :: ("cut".toList ++ sp :: Tryz.prog.initOrder.toList.drop 77)) := by kernel_rfl
theorem io_words : behindMainWord (wordsSigns Tryz.prog.initOrder.toList) = "cut".toList :: wordsSigns (Tryz.prog.initOrder.toList.drop 77) := by
  rw [io_eq, ws_app _ _ (by decide), ws_app _ _ (by decide), ws_app _ _ (by decide)]
  rw [← io_eq]
  generalize wordsSigns (Tryz.prog.initOrder.toList.drop 77) = ws
  show (if (("harness".toList == "harness".toList || "harness".toList == "ownmain".toList) && isSumSigns "e992cc6d704afc89758aaf8fd9a77071690771db51468eeba60045f0eed610c9".toList) = true then "cut".toList :: ws else "harness".toList :: "e992cc6d704afc89758aaf8fd9a77071690771db51468eeba60045f0eed610c9".toList :: "cut".toList :: ws) = _
  rw [if_pos (by decide)]
theorem sl (ws : List (List Char)) : stripLifts liftWords ("cut".toList :: ws) = ([], "cut".toList :: ws) := by
  unfold liftWords
  simp only [stripLifts]
  rfl
theorem hl : Tryz.prog.headLifts = [] := by unfold Program.headLifts; rw [io_words, sl]; rfl
theorem jf_later : Tryz.prog.laysLater = false := by kernel_rfl
theorem jf_refl : Tryz.prog.bearsReflect = false := by kernel_rfl
theorem jf_rows : Tryz.prog.doorRows = [] := by kernel_rfl
theorem jf_door : Tryz.prog.doorFits [] = true := by unfold Program.doorFits; rw [jf_rows]; rfl
theorem jf_may : Tryz.prog.mayEnter = true := by
  unfold Program.mayEnter
  rw [io_words]
  generalize wordsSigns (Tryz.prog.initOrder.toList.drop 77) = ws
  have e := sl ws
  simp only [e, jf_later, jf_refl, jf_door]
  simp
theorem jf_lift : Tryz.prog.liftsFinal = false := by
  unfold Program.liftsFinal
  rw [io_words, hl]
  generalize wordsSigns (Tryz.prog.initOrder.toList.drop 77) = ws
  rfl
theorem jf_make : Tryz.prog.make = some .cut := by
  unfold Program.make
  rw [io_words]
  generalize wordsSigns (Tryz.prog.initOrder.toList.drop 77) = ws
  rfl
end Go.Proofs.YtfokljnhllflbaaGreat
namespace Go.Proofs.YtfokljnhllflbaaGreat
open Go
set_option maxRecDepth 100000
theorem jf_prepareJoins0 : (Rows.prepareJoinsRow.wf (OpenSpec.ofChange Rows.prepareJoinsSpec)) = true := by kernel_rfl
theorem jf_prepareJoins1 : (laidOutB Tryz.prog) = true := by kernel_rfl
theorem jf_prepareJoins2 : (mapsRowed Tryz.prog) = true := by kernel_rfl
theorem jf_prepareJoins3 : (Tryz.f13.params.all (Tryz.prog.readableRec ·)) = true := by kernel_rfl
theorem jf_prepareJoins4 : (namedTie Tryz.prog Rows.prepareJoinsRow.named Rows.prepareJoinsSpec.vars) = true := by kernel_rfl
theorem jf_prepareJoins5 : ((Rows.prepareJoinsRow.stops == [])) = true := by kernel_rfl
theorem jf_prepareJoins6 : ((Tryz.prog.stops == [])) = true := by kernel_rfl
theorem jf_prepareJoins7 : ((Rows.prepareJoinsRow.knobs == [])) = true := by kernel_rfl
theorem jf_prepareJoins8 : ((Tryz.prog.stopKnobs == [])) = true := by kernel_rfl
theorem jf_prepareJoins9 : ((Rows.prepareJoinsRow.inPlace == Tryz.prog.inPlace 13)) = true := by kernel_rfl
theorem jf_prepareJoins10 : ((Rows.prepareJoinsRow.unfollowed == Tryz.prog.unfollowed 13)) = true := by kernel_rfl
theorem jf_prepareJoins11 : ((Rows.prepareJoinsRow.recurses == Tryz.prog.recurses 13)) = true := by kernel_rfl
theorem jf_prepareJoins12 : ((Rows.prepareJoinsRow.named == Tryz.prog.varsNamed 13)) = true := by kernel_rfl
theorem jf_prepareJoins13 : ((Rows.prepareJoinsRow.maps == (Tryz.f13.params.toList ++ Rows.prepareJoinsSpec.plain.varTypes Tryz.prog).any (Tryz.prog.mapsRec ·))) = true := by kernel_rfl
theorem jf_prepareJoins14 : ((Rows.prepareJoinsRow.ifaces == (Tryz.f13.params.toList ++ Rows.prepareJoinsSpec.plain.varTypes Tryz.prog).any (Tryz.prog.ifacesRec ·))) = true := by kernel_rfl
theorem jf_prepareJoins15 : ((Rows.prepareJoinsRow.mapsOut == Tryz.prog.mapsAmong Tryz.f13.resultTypes.toList)) = true := by kernel_rfl
theorem jf_prepareJoins16 : ((Rows.prepareJoinsRow.loops == (Tryz.f13.params.toList ++ Rows.prepareJoinsSpec.plain.varTypes Tryz.prog).any (Tryz.prog.loopsFrom ·))) = true := by kernel_rfl
theorem jf_prepareJoins17 : ((Rows.prepareJoinsRow.wideKeys == (Tryz.f13.params.toList ++ Rows.prepareJoinsSpec.plain.varTypes Tryz.prog ++ Tryz.f13.resultTypes.toList).any (Tryz.prog.wideKeysFrom ·))) = true := by kernel_rfl
theorem jf_prepareJoins18 : (Rows.prepareJoinsSpec.vars.all (Tryz.prog.varReadable ·)) = true := by kernel_rfl
theorem jf_prepareJoins19 : (Tryz.f13.resultTypes.all (fun t => Tryz.prog.readableRec t && decide (t < Tryz.prog.types.size))) = true := by kernel_rfl
theorem jf_prepareJoins20 : ((Rows.prepareJoinsRow.ifacesOut == Tryz.f13.resultTypes.toList.any (Tryz.prog.ifacesRec ·))) = true := by kernel_rfl
theorem jf_prepareJoins21 : ((Rows.prepareJoinsRow.loopsOut == Tryz.f13.resultTypes.toList.any (Tryz.prog.loopsFrom ·))) = true := by kernel_rfl
theorem jf_prepareJoins22 : ((Rows.prepareJoinsRow.plainKeys == Tryz.prog.plainKeys)) = true := by kernel_rfl
theorem jf_prepareJoins23 : (Rows.prepareJoinsRow.shortTexts.isNone) = true := by kernel_rfl
theorem jf_prepareJoins24 : (Tryz.prog.stopsHeard) = true := by kernel_rfl
theorem jf_prepareJoins25 : (Tryz.prog.mayEnter) = true := jf_may
theorem jf_prepareJoins26 : ((Rows.prepareJoinsRow.lifted == Tryz.prog.liftsFinal)) = true := by rw [jf_lift]; rfl
theorem jf_prepareJoins27 : ((Tryz.prog.make == some Rows.prepareJoinsRow.make)) = true := by rw [jf_make]; rfl
theorem jf_prepareJoins28 : ((Rows.prepareJoinsRow.kinds == (if Rows.prepareJoinsRow.domain.isEmpty then [] else Tryz.f13.params.toList.map fun t => match Tryz.prog.underlying t with | some (.int k) => some k | _ => none))) = true := by kernel_rfl
theorem jf_prepareJoins29 : ((Rows.prepareJoinsRow.pinned == Rows.prepareJoinsRow.pinnedBy)) = true := by kernel_rfl
theorem jf_prepareJoins30 : ((Rows.prepareJoinsRow.veiled == (Tryz.f13.params.toList ++ Rows.prepareJoinsSpec.plain.varTypes Tryz.prog ++ Tryz.f13.resultTypes.toList).any (Tryz.prog.veiledRec ·))) = true := by kernel_rfl
theorem jf_prepareJoins31 : (Rows.prepareJoinsRow.veiledFits Tryz.prog Tryz.f13.params.toList (Tryz.f13.params.toList ++ Rows.prepareJoinsSpec.plain.varTypes Tryz.prog ++ Tryz.f13.resultTypes.toList)) = true := by kernel_rfl
theorem jf_prepareJoins : joinedFacts Tryz.prog 13 Tryz.f13 Rows.prepareJoinsSpec Rows.prepareJoinsRow = true := by
  unfold joinedFacts
  simp only [Bool.and_eq_true]
  exact ⟨⟨⟨⟨⟨⟨⟨⟨⟨⟨⟨⟨⟨⟨⟨⟨⟨⟨⟨⟨⟨⟨⟨⟨⟨⟨⟨⟨⟨⟨⟨jf_prepareJoins0, jf_prepareJoins1⟩, jf_prepareJoins2⟩, jf_prepareJoins3⟩, jf_prepareJoins4⟩, jf_prepareJoins5⟩, jf_prepareJoins6⟩, jf_prepareJoins7⟩, jf_prepareJoins8⟩, jf_prepareJoins9⟩, jf_prepareJoins10⟩, jf_prepareJoins11⟩, jf_prepareJoins12⟩, jf_prepareJoins13⟩, jf_prepareJoins14⟩, jf_prepareJoins15⟩, jf_prepareJoins16⟩, jf_prepareJoins17⟩, jf_prepareJoins18⟩, jf_prepareJoins19⟩, jf_prepareJoins20⟩, jf_prepareJoins21⟩, jf_prepareJoins22⟩, jf_prepareJoins23⟩, jf_prepareJoins24⟩, jf_prepareJoins25⟩, jf_prepareJoins26⟩, jf_prepareJoins27⟩, jf_prepareJoins28⟩, jf_prepareJoins29⟩, jf_prepareJoins30⟩, jf_prepareJoins31⟩
end Go.Proofs.YtfokljnhllflbaaGreat
namespace Go.Proofs.YtfokljnhllflbaaGreat
open Go Go.Eng Go.ChangeShapes Go.WideShapes Go.ChangeAt Go.RowKit
set_option maxRecDepth 100000 in
theorem prepareJoins_lifted (os : Os) (started : os.Started) (H : Type) (enc : TypeId × Value → H) :
    ReturnsInHanded {} Tryz.checked os 13 .any (Rows.prepareJoinsSpec.pre6 enc Tryz.prog Tryz.f13 Rows.prepareJoinsRow.domain false) (Rows.prepareJoinsSpec.post enc Tryz.prog Tryz.f13 false true false false) := by
  refine returnsInHanded_of_change (C := Tryz.checked) Tryz.own started (by kernel_rfl) Tryz.func13
    (ChangeSpec.witness6 (enc := enc) (C := Tryz.checked) false ⟨#[], #[(.agg #[(J 0), (J 0), (J 0), (.string (⟨#[]⟩)), (.slice none 0 0)]), (J 0), (.slice none 0 0), (J 0), (J 0), (J 0)], []⟩ 8 (by kernel_rfl) (by kernel_rfl) (by kernel_rfl) (by kernel_rfl)) ?_
  intro W base args ds gs before hval0 hW hcnd _
  have hval : ∀ (j : Nat) t v, Tryz.f13.params[j]? = some t → args[j]? = some v → Value.okWide Tryz.prog W .any base t v := hval0
  have hW' := hW
  obtain ⟨p, q, hA0, hV, rfl, hfz, hnd⟩ := hW
  have hA : DataW.TrodAll enc Tryz.prog W 0 (fun _ => true) true Tryz.f13.params.toList args.toList ds p := hA0
  rw [Tryz.params13] at hA hval
  clear hA0 hval0
  obtain ⟨v0, vs0, d0, ds0, p0, q0, ha0, rfl, rfl, h0, hA⟩ := trodAll_cons hA
  obtain ⟨v1, vs1, d1, ds1, p1, q1, ha1, rfl, rfl, h1, hA⟩ := trodAll_cons hA
  obtain ⟨v2, vs2, d2, ds2, p2, q2, ha2, rfl, rfl, h2, hA⟩ := trodAll_cons hA
  obtain ⟨v3, vs3, d3, ds3, p3, q3, ha3, rfl, rfl, h3, hA⟩ := trodAll_cons hA
  obtain ⟨v4, vs4, d4, ds4, p4, q4, ha4, rfl, rfl, h4, hA⟩ := trodAll_cons hA
  obtain ⟨v5, vs5, d5, ds5, p5, q5, ha5, rfl, rfl, h5, hA⟩ := trodAll_cons hA
  obtain ⟨hz1, rfl, rfl⟩ := trodAll_nil hA
  obtain ⟨rfl, rfl⟩ := trodVars_none hV
  have hargs : args = #[v0, v1, v2, v3, v4, v5] := by apply Array.ext'; rw [ha0, ha1, ha2, ha3, ha4, ha5, hz1]
  subst hargs
  obtain ⟨l0, e0, c0⟩ := tr_agg Tryz.underlying24 (hval 0 24 v0 rfl rfl)
  obtain ⟨m0, h0⟩ := h0
  rw [c0] at h0
  clear c0
  obtain ⟨k, A, n, c, q0, hr, hn, hc, hk0, hk1, hk2, hke⟩ := op_Kept h0
  subst q0
  subst e0
  obtain ⟨number, q1, hnr⟩ := tr_pint Tryz.underlying3 (hval 1 3 v1 rfl rfl)
  subst q1
  clear h1
  obtain ⟨m2, h2⟩ := h2
  obtain ⟨A2, n2, c2, mm2, xs2, q2, hn2, hc2, hr2, hx2⟩ := tr_psl Tryz.underlying22 co31 (by decide) (hval 2 22 v2 rfl rfl) h2
  subst q2
  clear h2
  obtain ⟨l, q2, hle⟩ := tr_list (f := Entry.cells) (p := Entry.ok) (fun y hy => by obtain ⟨z, hz⟩ := hy; exact op_Entry hz) hx2
  subst q2
  rw [List.length_map] at hn2
  obtain ⟨commit, q3, hcr⟩ := tr_pint Tryz.underlying3 (hval 3 3 v3 rfl rfl)
  subst q3
  clear h3
  obtain ⟨client, q4, hlr⟩ := tr_pint Tryz.underlying3 (hval 4 3 v4 rfl rfl)
  subst q4
  clear h4
  obtain ⟨seq, q5, hsr⟩ := tr_pint Tryz.underlying3 (hval 5 3 v5 rfl rfl)
  subst q5
  clear h5
  refine Calls.mono (prepareJoins_ W W.heap.size k A n c hr (Nat.le_refl _) hn hc number l A2 n2 c2 hr2 hn2 hc2 commit client seq) ?_
  rintro e W' ⟨v, rfl, rfl, g⟩
  exact ⟨_, Z, law_post (t := 4) Tryz.laidOut (by kernel_rfl) Z Tryz.underlying4 hW' Z Z g⟩
theorem prepareJoins_holds : Rows.PrepareJoinsSaid :=
  OpenClaim.holds_of_wide 13 Tryz.f13 rfl rfl rfl rfl rfl rfl rfl ⟨rfl, rfl, rfl, rfl, rfl⟩ rfl rfl rfl rfl rfl (by kernel_rfl) Tryz.func13 jf_prepareJoins
    (of_decide_eq_true (by kernel_rfl)) (by unfold Func.isWrapper; first | (rw [if_pos (by decide +kernel)]; kernel_rfl) | (rw [if_neg (by decide +kernel)]; exact ⟨rfl, rfl⟩))
    (fun os started H enc _ => prepareJoins_lifted os started H enc)
#print axioms prepareJoins_holds
end Go.Proofs.YtfokljnhllflbaaGreat
