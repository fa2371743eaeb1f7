/- Part 6 of the proof of PrepareJoins: R4, Spec25, R5, Spec26, R6, Spec17, Spec27, EngClr, R7, Spec28. -/
import Derived.Deep.Quiet
import Derived.Ground.NamesProg
import Derived.Ground.SlgcProg
import Derived.Ground.SlsfProg
import Derived.JoinedOf
import Derived.Laws.BytesString
import Derived.Laws.MakeOwn
import Derived.Laws.Strings
import Derived.Lib.AppendZeros
import Derived.Lib.ConvBytes
import Derived.Lib.Overlaps
import Derived.Maps.AppendAt
import Derived.OrdersHeld
import Derived.ProofKit
import Derived.Recover
import Derived.ScopeJumps
import Derived.Shelf.SlSortCmp.NoneTotal
import Derived.Shelf.SlSortCmp.WholeK
import Derived.Shelf.SlicesG.Cmp
import Derived.Shelf.Small.Bits
import Derived.Sort.OwnSortedInts
import Derived.StillTail
import Derived.Test.YtfokljnhllflbaaGreatProg
import Derived.WalkKit
import Derived.WalkLawsBesides
import Derived.WalkSpells
import Derived.Test.YtfokljnhllflbaaGreatPPrepareJoins4
set_option linter.unusedSimpArgs false
set_option linter.unusedVariables false
namespace Go.Proofs.YtfokljnhllflbaaGreat
open Go Go.Eng Go.RowKit
set_option maxHeartbeats 1000000 in
set_option maxRecDepth 20000 in
theorem clear_ (w : World) (B : Nat) (o : Int) (b : Blk) (ros : List RObj) (A : Option Addr) (n c : Nat) (hr : Rd w B 5 A (Cn ros)) (hn : n = ros.length) (hB : B ≤ w.heap.size) (hm : n ≤ 1000000) (ho : 0 ≤ o ∧ o ≤ 8) (hb1 : 0 ≤ b.ord ∧ b.ord ≤ 8) (hb2 : 0 ≤ b.at_ ∧ b.at_ ≤ 2147483647) (hx : (∀ x ∈ ros, (0 ≤ x.blk.ord ∧ x.blk.ord ≤ 8) ∧ 0 ≤ x.blk.at_ ∧ x.blk.at_ ≤ 2147483647)) : Ret Tryz.prog 268 [(J o), (.agg (b.cells).toArray), (.slice A n c)] w (fun v w' => v = .bool (clearB o (ros.map RObj.blk) b) ∧ w.grownBy w' none) := by
  have H0 : Sp [Bc w Bp] w := Bl w
  refine Ret.body Tryz.func268 Z Z Z ?_
  refine CW.seq (CW.region (RL.bx (cs := b.cells) Z Z Z ?_))
  intro w1 b2 hb3 hz4 g5 o6
  have H7 := H0.newB g5 o6 (by omega)
  have z8 := g5.size
  refine za bF Z (RL.nil (thn.n (CW.seq (CW.seq (CW.region (za (J 0) Z (RL.nil (thn.n (CW.block ?_)))))))))
  refine CW.loop (fun t => (Nat.ble 6 t && Nat.ble t 20)) (fun nL ρ wl => ∃ (i : Nat), ρ 7 = (J (i : Int)) ∧ nL = n - i ∧ Sp [Ae b2 133 b.cells, Bc w Bp] wl ∧ i ≤ n ∧ ∀ (j : Nat) (x : RObj), j < i → ros[j]? = some x → meetB b x.blk = false) (n) ?aa0 ?bb0
  case aa0 =>
   exact ⟨0, Z, Z, H7, Nat.zero_le _, fun j x hj => by omega⟩
  case bb0 =>
   rintro n10 ρ0 w9 ho11 ⟨i, hs0_7, hn0, H12, hi, hO⟩
   obtain ⟨j0, rfl⟩ := ho11.shape1 hs0_7
   clear ho11 hs0_7
   subst hn0
   have z13 := (H12.fix (i := 1) rfl).size
   refine CW.seq (CW.seq (CW.region (zm (J (i : Int)) Z (zm (.slice A n c) Z (zg Z (Ex.len Tryz.underlying43 Z) ?_)))))
   refine zc (((i : Int) : Int) < ((n : Nat) : Int)) Z (fun r hr => Ex.lt Z Z hr) (fun h14 => ?_) (fun h14 => ?_)
   ·skip
    refine RL.nil (thn.n (Aa Z (CW.skip (thn.n (CW.seq (CW.block (CW.seq (Di (fun wq => Sp [Ae b2 133 b.cells, Bc w Bp] wq) Tryz.mixed Z ?_))))))))
    intro w15 g16
    have H17 := H12.grow g16
    have z18 := g16.size
    refine zr 1 2 Z (by kernel_rfl) H17 (fun wq hq => As (v := (.slice A n c)) Z) (zr 2 6 Z (by kernel_rfl) H17 (fun wq hq => As (v := (J (i : Int))) Z) (zr 0 7 Z (by kernel_rfl) H17 (fun wq hq => Ag Z (Ak (cs := b.cells) wh133 (hq.ob (i := 0) Z).cl)) ?_))
    obtain ⟨e19, he20⟩ : ∃ e, (ros)[i]? = some e := ⟨_, List.getElem?_eq_getElem (by omega)⟩
    obtain ⟨ad21, hA22⟩ := Rd.sm (hr.st0 (H17.fix (i := 1) rfl)) (Cg he20)
    have hl23 := Eng.lt_len (Cg he20)
    refine zr 3 15 Z (by kernel_rfl) H17 (fun wq hq => Ck (b := (ad21.add (i * 5))) (i := i) Tryz.underlying43 Tryz.sizeOf136 (by rw [← hA22]; rfl) Z (by omega) (by omega) Z) (zr 4 31 Z (by kernel_rfl) H17 (fun wq hq => fa136_1 (b := (((ad21.add (i * 5))).add 1)) Z Z) (zr 5 63 Z (by kernel_rfl) H17 (fun wq hq => Ag Z (Ak (cs := [(J e19.blk.at_), (J e19.blk.ord)]) wh133 ((Rd.cl (hr.st0 (hq.fix (i := 1) Z)) hA22 (Cg he20)).sub 1 2))) (RA.one (i := 6) (by kernel_rfl) ?_)))
    refine ⟨_, 127, Z, by kernel_rfl, ?_⟩
    have hxe := hx e19 (List.mem_of_getElem? he20)
    refine RL.call Tryz.call227 (meet_ _ b e19.blk (by first | assumption | (constructor <;> (first | omega | (show _ ≤ _; omega)))) (by first | assumption | (constructor <;> (first | omega | (show _ ≤ _; omega)))) (by first | assumption | (constructor <;> (first | omega | (show _ ≤ _; omega)))) (by first | assumption | (constructor <;> (first | omega | (show _ ≤ _; omega))))) Z Z Z ?_
    rintro _ w24 ⟨rfl, g25⟩
    have H26 := H17.grow g25
    have z27 := g25.size
    rcases hb28 : (meetB b e19.blk) with _ | _
    ·skip
     refine RL.nil ?_
     refine ⟨H26, ?_⟩
     refine Bi (by kernel_rfl) (thn.n (Ad Z (CW.skip (inB.n (thn.n (CW.region (zm (J (i : Int)) Z (zg Z (Ex.add (r := (i : Int) + 1) Z Z (Dd (by omega) (by omega))) (za (J ((i : Int) + 1)) Z (RL.nil (thn.n ?_)))))))))))
     refine ⟨(by repeat (first | exact Out.mix _ _ | exact Out.refl _ _ | refine Bf ?_ Z _)), _, ?_, i + 1, Z, Z, H26, by omega, upto_go (p := fun _ (x : RObj) => meetB b x.blk = false) hO he20 hb28⟩
     omega
    ·skip
     refine RL.nil ?_
     refine ⟨H26, ?_⟩
     refine Bi (by kernel_rfl) (thn.n (Aa Z (CW.seq (CW.region (za bF Z (RL.nil (thn.n (CW.ret (inB.r (thn.r (thn.r (inB.r (thn.r (finQ.r (v := bF) (Ax Z Z) ?_))))))))))))))
     exact ⟨An (clear_f he20 hb28).symm, (H26.fix (i := 1) Z)⟩
   ·skip
    refine RL.nil (thn.n (Ad Z (CW.exit (thn.x (thn.x (Bh (thn.n (CW.seq (CW.region (zm (J o) Z (zg Z (Ag Z (Ak (cs := b.cells) wh133 (H12.ob (i := 0) Z).cl)) (RL.call Tryz.call224 (mayR_ _ o b (by omega) (by omega)) Z Z Z ?_))))))))))))
    rintro _ w29 ⟨rfl, g30⟩
    have H31 := H12.grow g30
    have z32 := g30.size
    rcases hb33 : (mayR o b) with _ | _
    ·skip
     refine za bF Z (RL.nil (thn.n (CW.ret (finQ.r (v := bF) (Ax Z Z) ?_))))
     exact ⟨An (by rw [clear_m (n := i) (by omega) hO, hb33]), (H31.fix (i := 1) Z)⟩
    ·have hmt := mayR_bd hb33 (by omega)
     refine za bT Z (RL.nil (thn.n (CW.ret (finQ.r (v := bT) (Ax Z Z) ?_))))
     exact ⟨An (by rw [clear_m (n := i) (by omega) hO, hb33]), (H31.fix (i := 1) Z)⟩
set_option maxHeartbeats 2000000 in
set_option maxRecDepth 20000 in
theorem freeR_ (w : World) (B : Nat) (o : Int) (ros : List RObj) (A : Option Addr) (n c : Nat) (hr : Rd w B 5 A (Cn ros)) (hn : n = ros.length) (hB : B ≤ w.heap.size) (hm : n ≤ 1000000) (ho : 0 ≤ o ∧ o ≤ 8) (hx : (∀ x ∈ ros, (0 ≤ x.blk.ord ∧ x.blk.ord ≤ 8) ∧ 0 ≤ x.blk.at_ ∧ x.blk.at_ ≤ 2147483647)) : Ret Tryz.prog 246 [(J o), (.slice A n c)] w (fun v w' => ∃ (A' : Option Addr) (n' c' : Nat), v = .slice A' n' c' ∧ Sp ([At 133 2 A' n' c' (Cp (Dl (Af o) (ros.map RObj.blk) [⟨0, o⟩]))] ++ [Bc w Bp]) w' ∧ n' ≤ 600) := by
  have hwo := Ba o
  obtain ⟨ot, hot⟩ : ∃ ot : Nat, o = (ot : Int) := ⟨o.toNat, by omega⟩
  have H0 : Sp [Bc w Bp] w := Bl w
  refine Ret.body Tryz.func246 Z Z Z ?_
  refine CW.seq (CW.region (za (.slice none 0 0) Z (RL.nil (thn.n (CW.seq (CW.region (za (.slice none 0 0) Z (RL.nil (thn.n (CW.seq (CW.region (za (J 0) Z (RL.nil (thn.n (CW.seq (CW.block ?_))))))))))))))))
  have H1 := H0.nil_ 133 2
  refine CW.loop (fun t => (Nat.ble 5 t && Nat.ble t 41)) (fun nL ρ wl => ∃ (a : Int) (n1 c1 : Nat) (A1 : Option Addr) (bs1 : List Blk), ρ 6 = (J a) ∧ ρ 5 = (.slice A1 n1 c1) ∧ nL = (Af o - a).toNat ∧ Sp [At 133 2 A1 n1 c1 (Cp bs1), Bc w Bp] wl ∧ 0 ≤ a ∧ a ≤ 512 ∧ bs1 ++ scanF o (ros.map RObj.blk) 512 a = scanF o (ros.map RObj.blk) 512 0 ∧ (n1 : Int) ≤ a) ((Af o).toNat) ?aa0 ?bb0
  case aa0 =>
   exact ⟨0, 0, 0, none, [], Z, Z, (by simp), H1, Int.le_refl _, by omega, Z, Int.le_refl _⟩
  case bb0 =>
   rintro n3 ρ0 w2 ho4 ⟨a, n1, c1, A1, bs1, hs0_6, hs0_5, hn0, H5, ha0, ha1, hsc, hn1⟩
   obtain ⟨j0, rfl⟩ := ho4.shape2 hs0_6 hs0_5
   clear ho4 hs0_6 hs0_5
   subst hn0
   have z6 := (H5.fix (i := 1) rfl).size
   refine CW.seq (CW.seq (CW.region (zm (J a) Z (zm (J o) Z ?_))))
   have hz7 := Ba o
   have hz8 := Bq (o := o) (by omega) (by omega)
   refine RL.call Tryz.call229 (sz_ _ o (by omega) (by omega)) Z Z Z ?_
   rintro _ w9 ⟨rfl, g10⟩
   have H11 := H5.grow g10
   have z12 := g10.size
   refine zc ((a : Int) < ((Af o) : Int)) Z (fun r hr => Ex.lt Z Z hr) (fun h13 => ?_) (fun h13 => ?_)
   ·skip
    refine RL.nil (thn.n (Aa Z (CW.skip (thn.n (CW.block (CW.seq (CW.region ?_)))))))
    have hlt : a < Af o := h13
    have hao : a ≤ 256 := by omega
    refine zm (J a) Z (zm (J o) Z (zg Z (Ce (cs := [(J a), (J o)]) bd133 Z) (RL.al (cs := [(J 0), (J 0)]) Tryz.zeroValue133 Z Z Z ?_)))
    intro w14 b15 hb16 hz17 g18 o19
    have H20 := H11.newB g18 o19 (by omega)
    have z21 := g18.size
    refine RL.st (vs := [(J a), (J o)]) (cs' := [(J a), (J o)]) Tryz.sizeOf133 (H20.ob (i := 0) Z) Z Z Z Z Z Z ?_
    intro w22 hz23 g24 o25
    have H26 : Sp [Ae b15 133 [(J a), (J o)], At 133 2 A1 n1 c1 (Cp bs1), Bc w Bp] w22 := H20.setB (i := 0) rfl g24 o25 rfl
    have z27 := g24.size
    refine RL.nil (thn.n (CW.seq (CW.block ?_)))
    rw [hot] at H26
    refine CW.loop (fun t => (Nat.ble 15 t && Nat.ble t 28)) (fun nL ρ wl => ∃ (j : Nat), nL = 0 + j ∧ Sp [Ae b15 133 [(J a), (J (j : Int))], At 133 2 A1 n1 c1 (Cp bs1), Bc w Bp] wl ∧ (j : Int) ≤ o ∧ ∀ i3 : Nat, j < i3 → i3 ≤ o.toNat → clearB o (ros.map RObj.blk) ⟨a, (i3 : Int)⟩ = false) (0 + ot) ?aa1 ?bb1
    case aa1 =>
     exact ⟨ot, Z, H26, by omega, fun i3 h1 h2 => by omega⟩
    case bb1 =>
     rintro n29 ρ1 w28 ho30 ⟨j, hn1, H31, hj, hnc⟩
     obtain ⟨j1, rfl⟩ := ho30.shape0
     clear ho30
     subst hn1
     have z32 := (H31.fix (i := 2) rfl).size
     refine CW.seq (CW.seq (CW.region (zg Z (Cb (b := ⟨b15, 1, none⟩) Z Z) (zl (J (j : Int)) Bw (H31.ob (i := 0) Z) Z ?_))))
     refine zc ((0 : Int) < ((j : Int) : Int)) Z (fun r hr => Cv Z Z hr) (fun h33 => ?_) (fun h33 => ?_)
     ·skip
      refine zm bT Z (zm (J o) Z (zg Z (Ag Z (Ak (cs := [(J a), (J (j : Int))]) wh133 (H31.ob (i := 0) Z).cl)) (zm (.slice A n c) Z (RL.call Tryz.call268 (clear_ _ w28.heap.size o (⟨a, (j : Int)⟩ : Blk) ros A n c ((hr.st0 (H31.fix (i := 2) Z)).more (by omega)) (by first | assumption | omega) (Nat.le_refl _) (by omega) (by first | assumption | omega) (by first | assumption | omega | (dsimp only; omega)) (by first | assumption | omega | (dsimp only; omega)) hx) Z Z Z ?_))))
      rintro _ w34 ⟨rfl, g35⟩
      have H36 := H31.grow g35
      have z37 := g35.size
      rcases hb38 : (clearB o (ros.map RObj.blk) (⟨a, (j : Int)⟩ : Blk)) with _ | _
      ·skip
       refine zg Z (Ex.not (b := false) Z) (zT bT Z (RL.nil (thn.n (Aa Z (CW.skip (thn.n (CW.block (CW.region (zg Z (Cb (b := ⟨b15, 1, none⟩) Z Z) (zl (J (j : Int)) Bw (H36.ob (i := 0) Z) Z (zg Z (Ci (r := ((j - 1 : Nat) : Int)) Z Z (by rw [Dd (by omega) (by omega)]; omega)) (zg Z (Cb (b := ⟨b15, 1, none⟩) Z Z) (RL.st (vs := [(J ((j - 1 : Nat) : Int))]) (cs' := [(J a), (J ((j - 1 : Nat) : Int))]) Tryz.sizeOf3 (H36.ob (i := 0) Z) Z Z Z Z Z Z ?_)))))))))))))
       intro w39 hz40 g41 o42
       have H43 : Sp [Ae b15 133 [(J a), (J ((j - 1 : Nat) : Int))], At 133 2 A1 n1 c1 (Cp bs1), Bc w Bp] w39 := H36.setB (i := 0) rfl g41 o42 rfl
       have z44 := g41.size
       refine RL.nil (inB.n (thn.n ?_))
       refine ⟨(by repeat (first | exact Out.mix _ _ | exact Out.refl _ _ | refine Bf ?_ Z _ | refine Ch ?_ (by intro t ht; simp only [Bool.or_eq_false_iff, Bool.and_eq_false_iff, ble_f, beq_f] at ht ⊢; omega))), _, ?_, j - 1, Z, H43, by omega, fun i3 h1 h2 => (Nat.lt_or_ge j i3).elim (fun h => hnc i3 h h2) (fun h => by rw [show i3 = j by omega]; exact hb38)⟩
       omega
      ·skip
       refine zg Z (Ex.not (b := true) Z) (zT bF Z (RL.nil (thn.n (Ad Z (CW.exit (thn.x (thn.x (Bh (thn.n (CW.seq (CW.seq ?_)))))))))))
       have htop : topO o (ros.map RObj.blk) a o.toNat = j := topO_is (by omega) hnc (by first | exact .inl (by omega) | exact .inr hb38)
       have hwj := Bq (o := (j : Int)) (by omega) (by omega)
       have hwj2 := Ba (j : Int)
       refine CW.region (zm (J o) Z (zg Z (Ag Z (Ak (cs := [(J a), (J (j : Int))]) wh133 (H36.ob (i := 0) Z).cl)) (zm (.slice A n c) Z (RL.call Tryz.call268 (clear_ _ w34.heap.size o (⟨a, (j : Int)⟩ : Blk) ros A n c ((hr.st0 (H36.fix (i := 2) Z)).more (by omega)) (by first | assumption | omega) (Nat.le_refl _) (by omega) (by first | assumption | omega) (by first | assumption | omega | (dsimp only; omega)) (by first | assumption | omega | (dsimp only; omega)) hx) Z Z Z ?_))))
       rintro _ w45 ⟨rfl, g46⟩
       have H47 := H36.grow g46
       have z48 := g46.size
       rcases hb49 : (clearB o (ros.map RObj.blk) (⟨a, (j : Int)⟩ : Blk)) with _ | _
       ·skip
        refine RL.nil (thn.n (Ad Z (CW.skip (thn.n (CW.region (zm (J a) Z (zg Z (Cb (b := ⟨b15, 1, none⟩) Z Z) (zl (J (j : Int)) Bw (H47.ob (i := 0) Z) Z ?_))))))))
        have hz50 := Ba ((j : Int) : Int)
        have hz51 := Bq (o := ((j : Int) : Int)) (by omega) (by omega)
        refine RL.call Tryz.call229 (sz_ _ ((j : Int) : Int) (by omega) (by omega)) Z Z Z ?_
        rintro _ w52 ⟨rfl, g53⟩
        have H54 := H47.grow g53
        have z55 := g53.size
        refine zg Z (Ex.add (r := a + (Af ((j : Int) : Int))) Z Z (Dd (by omega) (by omega))) (za (J (a + (Af ((j : Int) : Int)))) Z (RL.nil (inB.n (thn.n ?_))))
        refine ⟨(by repeat (first | exact Out.mix _ _ | exact Out.refl _ _ | refine Bf ?_ Z _ | refine Ch ?_ (by intro t ht; simp only [Bool.or_eq_false_iff, Bool.and_eq_false_iff, ble_f, beq_f] at ht ⊢; omega))), _, ?_, a + Af (j : Int), n1, c1, A1, bs1, Z, Z, Z, (H54.sel [1, 2] (by decide) Z), by omega, by omega, by rw [← hsc, scan_step (by omega) ha0 hlt htop, if_neg (by rw [hb49]; decide), List.nil_append], by omega⟩
        omega
       ·skip
        refine RL.nil (thn.n (Aa Z (CW.region (zm (.slice A1 n1 c1) Z (zg Z (Ag Z (Ak (cs := [(J a), (J (j : Int))]) wh133 (H47.ob (i := 0) Z).cl)) (RL.bs (cs := [(J a), (J (j : Int))]) Tryz.underlying45 Tryz.sizeOf133 ze45 Z Z Z (by decide) Z Z Z ?_))))))
        intro w56 b57 hb58 hz59 g60 o61
        have H62 := H47.newB g60 o61 (by omega)
        have z63 := g60.size
        refine RL.apW (base := 0) (xss := (Cp bs1)) (yss := (Cp ([⟨a, (j : Int)⟩]))) el45 (H62.wr (i := 2) Z) Z (Do (H62.ob (i := 0) Z) Z) Z (by simp only [Ap, Ar, Aq, Aj, Ai, Au, List.length_append, List.length_cons, List.length_nil, List.length_take, List.length_drop, List.length_map, Cq, Dk, Be, Bg, Cw]; try omega) (blks_one _) (by omega) (by omega) (by omega) Z Z ?_
        intro w65 A66 c67 g68 ow69 nx70
        have H71 : Sp [Ae b57 133 [(J a), (J (j : Int))], Ae b15 133 [(J a), (J (j : Int))], At 133 2 A66 (n1 + 1) c67 (Cp (bs1 ++ [⟨a, (j : Int)⟩])), Bc w Bp] w65 := H62.setR (i := 2) rfl g68 ((blks_app _ _).symm ▸ ow69) nx70 rfl
        have z72 := g68.size
        refine za (.slice A66 (n1 + 1) c67) Z (RL.nil (thn.n (CW.region (zm (J a) Z (zg Z (Cb (b := ⟨b15, 1, none⟩) Z Z) (zl (J (j : Int)) Bw (H71.ob (i := 1) Z) Z ?_))))))
        have hz73 := Ba ((j : Int) : Int)
        have hz74 := Bq (o := ((j : Int) : Int)) (by omega) (by omega)
        refine RL.call Tryz.call229 (sz_ _ ((j : Int) : Int) (by omega) (by omega)) Z Z Z ?_
        rintro _ w75 ⟨rfl, g76⟩
        have H77 := H71.grow g76
        have z78 := g76.size
        refine zg Z (Ex.add (r := a + (Af ((j : Int) : Int))) Z Z (Dd (by omega) (by omega))) (za (J (a + (Af ((j : Int) : Int)))) Z (RL.nil (inB.n (thn.n ?_))))
        refine ⟨(by repeat (first | exact Out.mix _ _ | exact Out.refl _ _ | refine Bf ?_ Z _ | refine Ch ?_ (by intro t ht; simp only [Bool.or_eq_false_iff, Bool.and_eq_false_iff, ble_f, beq_f] at ht ⊢; omega))), _, ?_, a + Af (j : Int), n1 + 1, c67, A66, bs1 ++ [⟨a, (j : Int)⟩], Z, Z, Z, (H77.sel [2, 3] (by decide) Z), by omega, by omega, by rw [← hsc, scan_step (by omega) ha0 hlt htop, if_pos hb49, List.append_assoc], by omega⟩
        omega
     ·skip
      refine zm bF Z (zo Z (zo Z (zo Z (zo Z (zo Z (zF bF Z (RL.nil (thn.n (Ad Z (CW.exit (thn.x (thn.x (Bh (thn.n (CW.seq (CW.seq ?_))))))))))))))))
      have htop : topO o (ros.map RObj.blk) a o.toNat = j := topO_is (by omega) hnc (by first | exact .inl (by omega) | exact .inr h33)
      have hwj := Bq (o := (j : Int)) (by omega) (by omega)
      have hwj2 := Ba (j : Int)
      refine CW.region (zm (J o) Z (zg Z (Ag Z (Ak (cs := [(J a), (J (j : Int))]) wh133 (H31.ob (i := 0) Z).cl)) (zm (.slice A n c) Z (RL.call Tryz.call268 (clear_ _ w28.heap.size o (⟨a, (j : Int)⟩ : Blk) ros A n c ((hr.st0 (H31.fix (i := 2) Z)).more (by omega)) (by first | assumption | omega) (Nat.le_refl _) (by omega) (by first | assumption | omega) (by first | assumption | omega | (dsimp only; omega)) (by first | assumption | omega | (dsimp only; omega)) hx) Z Z Z ?_))))
      rintro _ w79 ⟨rfl, g80⟩
      have H81 := H31.grow g80
      have z82 := g80.size
      rcases hb83 : (clearB o (ros.map RObj.blk) (⟨a, (j : Int)⟩ : Blk)) with _ | _
      ·skip
       refine RL.nil (thn.n (Ad Z (CW.skip (thn.n (CW.region (zm (J a) Z (zg Z (Cb (b := ⟨b15, 1, none⟩) Z Z) (zl (J (j : Int)) Bw (H81.ob (i := 0) Z) Z ?_))))))))
       have hz84 := Ba ((j : Int) : Int)
       have hz85 := Bq (o := ((j : Int) : Int)) (by omega) (by omega)
       refine RL.call Tryz.call229 (sz_ _ ((j : Int) : Int) (by omega) (by omega)) Z Z Z ?_
       rintro _ w86 ⟨rfl, g87⟩
       have H88 := H81.grow g87
       have z89 := g87.size
       refine zg Z (Ex.add (r := a + (Af ((j : Int) : Int))) Z Z (Dd (by omega) (by omega))) (za (J (a + (Af ((j : Int) : Int)))) Z (RL.nil (inB.n (thn.n ?_))))
       refine ⟨(by repeat (first | exact Out.mix _ _ | exact Out.refl _ _ | refine Bf ?_ Z _ | refine Ch ?_ (by intro t ht; simp only [Bool.or_eq_false_iff, Bool.and_eq_false_iff, ble_f, beq_f] at ht ⊢; omega))), _, ?_, a + Af (j : Int), n1, c1, A1, bs1, Z, Z, Z, (H88.sel [1, 2] (by decide) Z), by omega, by omega, by rw [← hsc, scan_step (by omega) ha0 hlt htop, if_neg (by rw [hb83]; decide), List.nil_append], by omega⟩
       omega
      ·skip
       refine RL.nil (thn.n (Aa Z (CW.region (zm (.slice A1 n1 c1) Z (zg Z (Ag Z (Ak (cs := [(J a), (J (j : Int))]) wh133 (H81.ob (i := 0) Z).cl)) (RL.bs (cs := [(J a), (J (j : Int))]) Tryz.underlying45 Tryz.sizeOf133 ze45 Z Z Z (by decide) Z Z Z ?_))))))
       intro w90 b91 hb92 hz93 g94 o95
       have H96 := H81.newB g94 o95 (by omega)
       have z97 := g94.size
       refine RL.apW (base := 0) (xss := (Cp bs1)) (yss := (Cp ([⟨a, (j : Int)⟩]))) el45 (H96.wr (i := 2) Z) Z (Do (H96.ob (i := 0) Z) Z) Z (by simp only [Ap, Ar, Aq, Aj, Ai, Au, List.length_append, List.length_cons, List.length_nil, List.length_take, List.length_drop, List.length_map, Cq, Dk, Be, Bg, Cw]; try omega) (blks_one _) (by omega) (by omega) (by omega) Z Z ?_
       intro w98 A99 c100 g101 ow102 nx103
       have H104 : Sp [Ae b91 133 [(J a), (J (j : Int))], Ae b15 133 [(J a), (J (j : Int))], At 133 2 A99 (n1 + 1) c100 (Cp (bs1 ++ [⟨a, (j : Int)⟩])), Bc w Bp] w98 := H96.setR (i := 2) rfl g101 ((blks_app _ _).symm ▸ ow102) nx103 rfl
       have z105 := g101.size
       refine za (.slice A99 (n1 + 1) c100) Z (RL.nil (thn.n (CW.region (zm (J a) Z (zg Z (Cb (b := ⟨b15, 1, none⟩) Z Z) (zl (J (j : Int)) Bw (H104.ob (i := 1) Z) Z ?_))))))
       have hz106 := Ba ((j : Int) : Int)
       have hz107 := Bq (o := ((j : Int) : Int)) (by omega) (by omega)
       refine RL.call Tryz.call229 (sz_ _ ((j : Int) : Int) (by omega) (by omega)) Z Z Z ?_
       rintro _ w108 ⟨rfl, g109⟩
       have H110 := H104.grow g109
       have z111 := g109.size
       refine zg Z (Ex.add (r := a + (Af ((j : Int) : Int))) Z Z (Dd (by omega) (by omega))) (za (J (a + (Af ((j : Int) : Int)))) Z (RL.nil (inB.n (thn.n ?_))))
       refine ⟨(by repeat (first | exact Out.mix _ _ | exact Out.refl _ _ | refine Bf ?_ Z _ | refine Ch ?_ (by intro t ht; simp only [Bool.or_eq_false_iff, Bool.and_eq_false_iff, ble_f, beq_f] at ht ⊢; omega))), _, ?_, a + Af (j : Int), n1 + 1, c100, A99, bs1 ++ [⟨a, (j : Int)⟩], Z, Z, Z, (H110.sel [2, 3] (by decide) Z), by omega, by omega, by rw [← hsc, scan_step (by omega) ha0 hlt htop, if_pos hb83, List.append_assoc], by omega⟩
       omega
   ·skip
    refine RL.nil (thn.n (Ad Z (CW.exit (thn.x (thn.x (Bh (thn.n (CW.seq (CW.region (zm (.slice A1 n1 c1) Z (za (.slice A1 n1 c1) Z (RL.nil (thn.n (CW.ret (finQ.r (v := (.slice A1 n1 c1)) (Ax Z Z) ?_)))))))))))))))
    have hfin : bs1 = Dl (Af o) (ros.map RObj.blk) [⟨0, o⟩] := by rw [← scan_is ho.1 ho.2 512 (by omega), ← hsc, scan_end (by omega), List.append_nil]
    rw [hfin] at H11
    exact ⟨_, _, _, Z, (H11.sel [0, 1] (by decide) Z), by have := Ba o; omega⟩
end Go.Proofs.YtfokljnhllflbaaGreat
namespace Go.Eng
open Go Go.RowKit
theorem robjs_app (l m : List RObj) : Cn (l ++ m) = Cn l ++ Cn m := by simp [Cn]
theorem map_blk {ros : List RObj} {os : List Obj} {w : World} {B : Nat} (h1 : ros.length = os.length ∧ ∀ (i : Nat) (ro : RObj) (o : Obj), ros[i]? = some ro → os[i]? = some o → ObjR w B ro o) : ros.map RObj.blk = os.map Obj.blk := by
  apply List.ext_getElem?
  intro i
  simp only [List.getElem?_map]
  cases e1 : ros[i]? with
  | none =>
    rw [List.getElem?_eq_none_iff] at e1
    rw [List.getElem?_eq_none (by rw [← h1.1]; exact e1)]; rfl
  | some ro =>
    have hi : i < os.length := by rw [← h1.1]; exact lt_len e1
    have e2 := List.getElem?_eq_getElem hi
    rw [e2]
    simp only [Option.map_some]
    rw [(h1.2 i ro _ e1 e2).b]
theorem obs_bd {ros : List RObj} {os : List Obj} (h : ros.map RObj.blk = os.map Obj.blk) (ho : ∀ o ∈ os, (0 ≤ o.blk.ord ∧ o.blk.ord ≤ 6) ∧ 0 ≤ o.blk.at_ ∧ o.blk.at_ ≤ 2147483647) : ∀ x ∈ ros, (0 ≤ x.blk.ord ∧ x.blk.ord ≤ 8) ∧ 0 ≤ x.blk.at_ ∧ x.blk.at_ ≤ 2147483647 := fun x hx => by
  have : x.blk ∈ ros.map RObj.blk := List.mem_map.2 ⟨x, hx, rfl⟩
  rw [h] at this
  obtain ⟨o, h1, e⟩ := List.mem_map.1 this
  have := ho o h1
  rw [e] at this
  omega
theorem rdT_ok {bs : List UInt8} {x : Nat} (h : rdN bs = some ((x : Int), bs.drop 4)) (h1 : x ≤ 65536) (h2 : x + 4 ≤ bs.length) : rdT bs = some ((bs.drop 4).take x, bs.drop (4 + x)) := by
  unfold rdT
  simp only [h]
  rw [if_neg (by omega), if_neg (by rw [List.length_drop]; omega), Int.toNat_natCast, List.drop_drop]
theorem rdT_no1 {bs : List UInt8} (h : rdN bs = none) : rdT bs = none := by unfold rdT; simp only [h]
theorem rdT_no2 {bs r : List UInt8} {x : Int} (h : rdN bs = some (x, r)) (h1 : 65536 < x) : rdT bs = none := by unfold rdT; simp only [h]; rw [if_pos h1]
theorem rdT_no3 {bs : List UInt8} {x : Int} (h : rdN bs = some (x, bs.drop 4)) (h1 : (bs.length : Int) - 4 < x) (h2 : 4 ≤ bs.length) : rdT bs = none := by
  unfold rdT
  simp only [h]
  split
  · rfl
  · rw [if_pos (by rw [List.length_drop]; omega)]
theorem rowF_mk {s s1 s2 s3 s4 : SB} {c q d v : Int} (h1 : numF s = (c, s1)) (h2 : numF s1 = (q, s2)) (h3 : numF s2 = (d, s3)) (h4 : intF s3 = (v, s4)) : rowF s = (⟨c, q, d, v⟩, s4) := by
  unfold rowF
  simp only [h1, h2, h3, h4]
end Go.Eng
namespace Go.Proofs.YtfokljnhllflbaaGreat
open Go Go.Eng Go.RowKit
set_option maxHeartbeats 1000000 in
set_option maxRecDepth 20000 in
theorem rdTxt_ (w : World) (B : Nat) (bs : List UInt8) (A : Option Addr) (n c : Nat) (hr : Rd w B 1 A (Db bs)) (hn : n = bs.length) (hc : n ≤ c) (hm : n ≤ 140737488351232) : Ret Tryz.prog 185 [(.slice A n c)] w (fun v w' => (∃ (t : List UInt8) (k : Nat), v = .tuple #[.string (tx t), .int .i64 (k : Int), .int .i64 0] ∧ w.grownBy w' none ∧ rdT bs = some (t, bs.drop k) ∧ k ≤ n ∧ t.length ≤ 65536) ∨ (∃ e : Int, v = .tuple #[.string (tx []), .int .i64 0, .int .i64 e] ∧ w.grownBy w' none ∧ rdT bs = none ∧ e ≠ 0)) := by
  have H0 : Sp [Bc w Bp] w := Bl w
  refine Ret.body Tryz.func185 Z Z Z ?_
  refine CW.seq (CW.region (za (.string (⟨#[]⟩)) Z (za (J 0) Z (za (J 0) Z (RL.nil (thn.n (CW.seq (CW.region (zm (.slice A n c) Z (RL.call Tryz.call244 (rdNum_ _ _ bs A n c hr (by first | assumption | omega) (by omega)) Z Z Z ?_))))))))))
  rintro _ w8 (⟨x1, rfl, g9, hrn3, hge4, hle5⟩ | ⟨e2, rfl, g10, hrn6, hne7⟩)
  ·skip
   have H11 := H0.grow g9
   have z12 := g9.size
   refine zm (.tuple #[(J (x1 : Int)), (J 4), (J 0)]) Z (zx (J (x1 : Int)) Z (zx (J 4) Z (zx (J 0) Z (za (J (x1 : Int)) Z (za (J 4) Z (za (J 0) Z (RL.nil (thn.n (CW.seq (CW.seq (CW.region (zm (J 0) Z (zg Z (Cd (r := false) Z Z (by decide)) (RL.nil (thn.n (Ad Z (CW.skip (thn.n (CW.seq (CW.seq (CW.region ?_)))))))))))))))))))))
   refine zm (J (x1 : Int)) Z ?_
   refine zc ((65536 : Int) < ((x1 : Int) : Int)) Z (fun r hr => Cv Z Z hr) (fun h13 => ?_) (fun h13 => ?_)
   ·skip
    refine RL.nil (thn.n (Aa Z (CW.seq (CW.region (za (.string (⟨#[]⟩)) Z (za (J 0) Z (za (J 11) Z (RL.nil (thn.n (CW.ret (thn.r (finQ.r (v := (.tuple #[(.string (⟨#[]⟩)), (J 0), (J 11)])) (res3 Z Z Z Z) ?_))))))))))))
    exact .inr ⟨_, Z, (H11.fix (i := 0) Z), by first | exact rdT_no2 hrn3 (by omega) | exact rdT_no3 hrn3 (by omega) (by omega), by decide⟩
   ·skip
    refine RL.nil (thn.n (Ad Z (CW.skip (thn.n (CW.seq (CW.seq (CW.region (zm (.slice A n c) Z (zg Z (Ex.len Tryz.underlying97 Z) (zm (J 4) Z (zg Z (Ci (r := (n : Nat) - 4) Z Z (Dd (by omega) (by omega))) (zm (J (x1 : Int)) Z ?_))))))))))))
    refine zc (((n : Nat) - 4 : Int) < ((x1 : Int) : Int)) Z (fun r hr => Ex.lt Z Z hr) (fun h14 => ?_) (fun h14 => ?_)
    ·skip
     refine RL.nil (thn.n (Aa Z (CW.seq (CW.region (za (.string (⟨#[]⟩)) Z (za (J 0) Z (za (J 10) Z (RL.nil (thn.n (CW.ret (thn.r (finQ.r (v := (.tuple #[(.string (⟨#[]⟩)), (J 0), (J 10)])) (res3 Z Z Z Z) ?_))))))))))))
     exact .inr ⟨_, Z, (H11.fix (i := 0) Z), by first | exact rdT_no2 hrn3 (by omega) | exact rdT_no3 hrn3 (by omega) (by omega), by decide⟩
    ·skip
     refine RL.nil (thn.n (Ad Z (CW.skip (thn.n (CW.seq (CW.region (zm (.slice A n c) Z (zm (J 4) Z (zm (J 4) Z (zm (J (x1 : Int)) Z (zg Z (Ex.add (r := 4 + (x1 : Int)) Z Z (Dd (by omega) (by omega))) ?_)))))))))))
     have hl4 : (bs.drop 4).length = bs.length - 4 := List.length_drop
     have hr4 := (RB.drop (k := 4) ⟨hr, hn, hc, hm⟩ (by omega)).1
     refine zg Z (Ex.slLH (i := 4) (j := 4 + x1) (v := .slice (dropA A c 4 1) x1 (c - 4)) Tryz.underlying97 Tryz.sizeOf5 Z Z Z (by omega) (by omega) (by omega) (by omega) (by rw [Nat.add_sub_cancel_left]; rfl)) (zg Z (Ex.b2s (bs := (bs.drop 4)) Tryz.underlying97 Tryz.underlying5 Tryz.underlying9 Z (hr4.st0 (H11.fix (i := 0) Z)) (by omega)) (zm (J 4) Z (zm (J (x1 : Int)) Z (zg Z (Ex.add (r := 4 + (x1 : Int)) Z Z (Dd (by omega) (by omega))) (za (.string (tx (((bs.drop 4)).take x1))) Z (za (J (4 + (x1 : Int))) Z (za (J 0) Z (RL.nil (thn.n (CW.ret (finQ.r (v := (.tuple #[(.string (tx (((bs.drop 4)).take x1))), (J (4 + (x1 : Int))), (J 0)])) (res3 Z Z Z Z) ?_)))))))))))
     exact .inl ⟨(bs.drop 4).take x1, 4 + x1, Z, (H11.fix (i := 0) Z), rdT_ok hrn3 (by omega) (by omega), by omega, by rw [List.length_take]; omega⟩
  ·skip
   have H15 := H0.grow g10
   have z16 := g10.size
   refine zm (.tuple #[(J 0), (J 0), (J e2)]) Z (zx (J 0) Z (zx (J 0) Z (zx (J e2) Z (za (J 0) Z (za (J 0) Z (za (J e2) Z (RL.nil (thn.n (CW.seq (CW.seq (CW.region (zm (J e2) Z (zg Z (Cd (r := true) Z Z (decide_eq_true (by omega))) (RL.nil (thn.n (Aa Z (CW.seq (CW.region ?_))))))))))))))))))
   refine zm (J e2) Z (za (.string (⟨#[]⟩)) Z (za (J 0) Z (za (J e2) Z (RL.nil (thn.n (CW.ret (thn.r (finQ.r (v := (.tuple #[(.string (⟨#[]⟩)), (J 0), (J e2)])) (res3 Z Z Z Z) ?_))))))))
   exact .inr ⟨_, Z, (H15.fix (i := 0) Z), rdT_no1 hrn6, by first | assumption | decide⟩
set_option maxHeartbeats 4000000 in
set_option maxRecDepth 20000 in
theorem getHeapR_ (w : World) (B : Nat) (bs : List UInt8) (A : Option Addr) (n c : Nat) (hr : RB w B A n c bs) (hB : B ≤ w.heap.size) : Ret Tryz.prog 186 [(.slice A n c)] w (fun v w' => (∃ (rh : RHeap) (ros : List RObj) (hh : Eng.Heap), v = .tuple #[.agg rh.cells.toArray, .int .i64 0] ∧ Sp ([HpW rh ros hh] ++ [Bc w Bp]) w' ∧ getHeap bs = some hh ∧ Cz hh = true) ∨ (v = .tuple #[.agg zHeap.toArray, .int .i64 60] ∧ w.grownBy w' none ∧ getHeap bs = none)) := by
  have H0 : Sp [Bc w Bp] w := Bl w
  refine Ret.body Tryz.func186 Z Z Z ?_
  refine CW.seq (CW.region (RL.al (cs := zHeap) Tryz.zeroValue47 Z Z Z ?_))
  intro w1 b2 hb3 hz4 g5 o6
  have H7 := H0.newB g5 o6 (by omega)
  have z8 := g5.size
  refine za (J 0) Z (RL.nil (thn.n (CW.seq (CW.region (zm (.slice A n c) Z (zg Z (Ce (cs := [(.slice A n c), bF]) bd213 Z) (RL.bx (cs := [(.slice A n c), bF]) Z Z Z ?_)))))))
  intro w9 b10 hb11 hz12 g13 o14
  have H15 := H7.newB g13 o14 (by omega)
  have z16 := g13.size
  refine za (.pointer (some ⟨b10, 0, none⟩)) Z (RL.nil (thn.n (CW.seq (CW.region (zg Z (Ce (cs := zHeap) bd47 Z) (RL.al (cs := zHeap) Tryz.zeroValue47 Z Z Z ?_))))))
  intro w17 b18 hb19 hz20 g21 o22
  have H23 := H15.newB g21 o22 (by omega)
  have z24 := g21.size
  refine RL.st (vs := zHeap) (cs' := zHeap) Tryz.sizeOf47 (H23.ob (i := 0) Z) Z Z Z Z Z Z ?_
  intro w25 hz26 g27 o28
  have H29 : Sp [Ae b18 47 zHeap, Ae b10 213 [(.slice A n c), bF], Ae b2 47 zHeap, Bc w Bp] w25 := H23.setB (i := 0) rfl g27 o28 rfl
  have z30 := g27.size
  refine RL.nil (thn.n (CW.seq (CW.region (zm (.pointer (some ⟨b10, 0, none⟩)) Z ?_))))
  obtain ⟨S41, hS42, hO43, K44⟩ := Sp.takeL (l1 := [Ae b10 213 [(.slice A n c), bF]]) (l2 := [Ae b18 47 zHeap, Ae b2 47 zHeap, Bc w Bp]) (w := w25) (H29.sel [1, 0, 2, 3] (by decide) rfl)
  refine RL.call Tryz.call187 (rnum_ _ S41 b10 A n c bs false hS42 ⟨(Dg hO43 (j := 2) Z hr.1 (by omega)), hr.2⟩) Z Z Z ?_
  rintro _ w45 ⟨x31, A32, n33, c34, bs35, bq36, rfl, g46, hnum37, hind38, hxle39⟩
  have H47 : Sp [Ae b10 213 [.slice A32 n33 c34, .bool bq36], Ae b18 47 zHeap, Ae b2 47 zHeap, Bc w Bp] w45 := K44 _ _ g46
  have z48 := (H47.fix (i := 3) rfl).size
  have hq40 := hind38.r _ _ hr
  refine zg Z (fa47_0 (b := ⟨b18, 0, none⟩) Z Z) (RL.st (vs := [(J (x31 : Int))]) (cs' := [(J (x31 : Int)), (.slice none 0 0), (J 0), (J 0), (J 0), (J 0), (J 0), (.slice none 0 0)]) Tryz.sizeOf3 (H47.ob (i := 1) Z) Z Z Z Z Z Z ?_)
  intro w49 hz50 g51 o52
  have H53 : Sp [Ae b10 213 [.slice A32 n33 c34, .bool bq36], Ae b18 47 [(J (x31 : Int)), (.slice none 0 0), (J 0), (J 0), (J 0), (J 0), (J 0), (.slice none 0 0)], Ae b2 47 zHeap, Bc w Bp] w49 := H47.setB (i := 1) rfl g51 o52 rfl
  have z54 := g51.size
  refine RL.nil (thn.n (CW.seq (CW.region (zm (.pointer (some ⟨b10, 0, none⟩)) Z ?_))))
  obtain ⟨S66, hS67, hO68, K69⟩ := H53.takeN 1
  refine RL.call Tryz.call187 (rnum_ _ S66 b10 A32 n33 c34 bs35 bq36 hS67 ⟨(Dg hO68 (j := 2) Z hq40.1 (by omega)), hq40.2⟩) Z Z Z ?_
  rintro _ w70 ⟨x55, A56, n57, c58, bs59, bq60, rfl, g71, hnum61, hind62, hxle63⟩
  have H72 : Sp [Ae b10 213 [.slice A56 n57 c58, .bool bq60], Ae b18 47 [(J (x31 : Int)), (.slice none 0 0), (J 0), (J 0), (J 0), (J 0), (J 0), (.slice none 0 0)], Ae b2 47 zHeap, Bc w Bp] w70 := K69 _ _ g71
  have z73 := (H72.fix (i := 3) rfl).size
  have hq65 := hind62.r _ _ hq40
  refine zg Z (fa47_2 (b := ⟨b18, 2, none⟩) Z Z) (RL.st (vs := [(J (x55 : Int))]) (cs' := [(J (x31 : Int)), (.slice none 0 0), (J (x55 : Int)), (J 0), (J 0), (J 0), (J 0), (.slice none 0 0)]) Tryz.sizeOf3 (H72.ob (i := 1) Z) Z Z Z Z Z Z ?_)
  intro w74 hz75 g76 o77
  have H78 : Sp [Ae b10 213 [.slice A56 n57 c58, .bool bq60], Ae b18 47 [(J (x31 : Int)), (.slice none 0 0), (J (x55 : Int)), (J 0), (J 0), (J 0), (J 0), (.slice none 0 0)], Ae b2 47 zHeap, Bc w Bp] w74 := H72.setB (i := 1) rfl g76 o77 rfl
  have z79 := g76.size
  refine RL.nil (thn.n (CW.seq (CW.seq (CW.region (za (J 0) Z (RL.nil (thn.n (CW.block (CW.unroll (Cs (CW.seq (CW.seq (CW.region (zm (J 0) Z (zg Z (Ex.lt (r := true) Z Z (by decide)) (RL.nil (thn.n (Aa Z (CW.skip (thn.n (CW.seq (CW.block (CW.region (zm (J 0) Z ?_))))))))))))))))))))))))
  refine zm (.pointer (some ⟨b10, 0, none⟩)) Z ?_
  obtain ⟨S90, hS91, hO92, K93⟩ := H78.takeN 1
  refine RL.call Tryz.call187 (rnum_ _ S90 b10 A56 n57 c58 bs59 bq60 hS91 ⟨(Dg hO92 (j := 2) Z hq65.1 (by omega)), hq65.2⟩) Z Z Z ?_
  rintro _ w94 ⟨x80, A81, n82, c83, bs84, bq85, rfl, g95, hnum86, hind87, hxle88⟩
  have H96 : Sp [Ae b10 213 [.slice A81 n82 c83, .bool bq85], Ae b18 47 [(J (x31 : Int)), (.slice none 0 0), (J (x55 : Int)), (J 0), (J 0), (J 0), (J 0), (.slice none 0 0)], Ae b2 47 zHeap, Bc w Bp] w94 := K93 _ _ g95
  have z97 := (H96.fix (i := 3) rfl).size
  have hq89 := hind87.r _ _ hq65
  refine zg Z (fa47_3 (b := ⟨b18, 3, none⟩) Z Z) (zg Z (Ex.ixA (b := ⟨b18, 3, none⟩) (i := 0) Tryz.underlying44 Tryz.sizeOf3 Z Z Z Z Z) (RL.st (vs := [(J (x80 : Int))]) (cs' := [(J (x31 : Int)), (.slice none 0 0), (J (x55 : Int)), (J (x80 : Int)), (J 0), (J 0), (J 0), (.slice none 0 0)]) Tryz.sizeOf3 (H96.ob (i := 1) Z) Z Z Z Z Z Z ?_))
  intro w98 hz99 g100 o101
  have H102 : Sp [Ae b10 213 [.slice A81 n82 c83, .bool bq85], Ae b18 47 [(J (x31 : Int)), (.slice none 0 0), (J (x55 : Int)), (J (x80 : Int)), (J 0), (J 0), (J 0), (.slice none 0 0)], Ae b2 47 zHeap, Bc w Bp] w98 := H96.setB (i := 1) rfl g100 o101 rfl
  have z103 := g100.size
  refine RL.nil (inB.n (thn.n (CW.region (zm (J 0) Z (zg Z (Ex.add (r := 1) Z Z Z) (za (J 1) Z (RL.nil (thn.n (Cs (CW.seq (CW.seq (CW.region (zm (J 1) Z (zg Z (Ex.lt (r := true) Z Z (by decide)) (RL.nil (thn.n (Aa Z (CW.skip (thn.n (CW.seq (CW.block (CW.region ?_))))))))))))))))))))))
  refine zm (J 1) Z (zm (.pointer (some ⟨b10, 0, none⟩)) Z ?_)
  obtain ⟨S114, hS115, hO116, K117⟩ := H102.takeN 1
  refine RL.call Tryz.call187 (rnum_ _ S114 b10 A81 n82 c83 bs84 bq85 hS115 ⟨(Dg hO116 (j := 2) Z hq89.1 (by omega)), hq89.2⟩) Z Z Z ?_
  rintro _ w118 ⟨x104, A105, n106, c107, bs108, bq109, rfl, g119, hnum110, hind111, hxle112⟩
  have H120 : Sp [Ae b10 213 [.slice A105 n106 c107, .bool bq109], Ae b18 47 [(J (x31 : Int)), (.slice none 0 0), (J (x55 : Int)), (J (x80 : Int)), (J 0), (J 0), (J 0), (.slice none 0 0)], Ae b2 47 zHeap, Bc w Bp] w118 := K117 _ _ g119
  have z121 := (H120.fix (i := 3) rfl).size
  have hq113 := hind111.r _ _ hq89
  refine zg Z (fa47_3 (b := ⟨b18, 3, none⟩) Z Z) (zg Z (Ex.ixA (b := ⟨b18, 4, none⟩) (i := 1) Tryz.underlying44 Tryz.sizeOf3 Z Z Z Z Z) (RL.st (vs := [(J (x104 : Int))]) (cs' := [(J (x31 : Int)), (.slice none 0 0), (J (x55 : Int)), (J (x80 : Int)), (J (x104 : Int)), (J 0), (J 0), (.slice none 0 0)]) Tryz.sizeOf3 (H120.ob (i := 1) Z) Z Z Z Z Z Z ?_))
  intro w122 hz123 g124 o125
  have H126 : Sp [Ae b10 213 [.slice A105 n106 c107, .bool bq109], Ae b18 47 [(J (x31 : Int)), (.slice none 0 0), (J (x55 : Int)), (J (x80 : Int)), (J (x104 : Int)), (J 0), (J 0), (.slice none 0 0)], Ae b2 47 zHeap, Bc w Bp] w122 := H120.setB (i := 1) rfl g124 o125 rfl
  have z127 := g124.size
  refine RL.nil (inB.n (thn.n (CW.region (zm (J 1) Z (zg Z (Ex.add (r := 2) Z Z Z) (za (J 2) Z (RL.nil (thn.n (Cs (CW.seq (CW.seq (CW.region (zm (J 2) Z (zg Z (Ex.lt (r := true) Z Z (by decide)) (RL.nil (thn.n (Aa Z (CW.skip (thn.n (CW.seq (CW.block (CW.region ?_))))))))))))))))))))))
  refine zm (J 2) Z (zm (.pointer (some ⟨b10, 0, none⟩)) Z ?_)
  obtain ⟨S138, hS139, hO140, K141⟩ := H126.takeN 1
  refine RL.call Tryz.call187 (rnum_ _ S138 b10 A105 n106 c107 bs108 bq109 hS139 ⟨(Dg hO140 (j := 2) Z hq113.1 (by omega)), hq113.2⟩) Z Z Z ?_
  rintro _ w142 ⟨x128, A129, n130, c131, bs132, bq133, rfl, g143, hnum134, hind135, hxle136⟩
  have H144 : Sp [Ae b10 213 [.slice A129 n130 c131, .bool bq133], Ae b18 47 [(J (x31 : Int)), (.slice none 0 0), (J (x55 : Int)), (J (x80 : Int)), (J (x104 : Int)), (J 0), (J 0), (.slice none 0 0)], Ae b2 47 zHeap, Bc w Bp] w142 := K141 _ _ g143
  have z145 := (H144.fix (i := 3) rfl).size
  have hq137 := hind135.r _ _ hq113
  refine zg Z (fa47_3 (b := ⟨b18, 3, none⟩) Z Z) (zg Z (Ex.ixA (b := ⟨b18, 5, none⟩) (i := 2) Tryz.underlying44 Tryz.sizeOf3 Z Z Z Z Z) (RL.st (vs := [(J (x128 : Int))]) (cs' := [(J (x31 : Int)), (.slice none 0 0), (J (x55 : Int)), (J (x80 : Int)), (J (x104 : Int)), (J (x128 : Int)), (J 0), (.slice none 0 0)]) Tryz.sizeOf3 (H144.ob (i := 1) Z) Z Z Z Z Z Z ?_))
  intro w146 hz147 g148 o149
  have H150 : Sp [Ae b10 213 [.slice A129 n130 c131, .bool bq133], Ae b18 47 [(J (x31 : Int)), (.slice none 0 0), (J (x55 : Int)), (J (x80 : Int)), (J (x104 : Int)), (J (x128 : Int)), (J 0), (.slice none 0 0)], Ae b2 47 zHeap, Bc w Bp] w146 := H144.setB (i := 1) rfl g148 o149 rfl
  have z151 := g148.size
  refine RL.nil (inB.n (thn.n (CW.region (zm (J 2) Z (zg Z (Ex.add (r := 3) Z Z Z) (za (J 3) Z (RL.nil (thn.n (Cs (CW.seq (CW.seq (CW.region (zm (J 3) Z (zg Z (Ex.lt (r := true) Z Z (by decide)) (RL.nil (thn.n (Aa Z (CW.skip (thn.n (CW.seq (CW.block (CW.region ?_))))))))))))))))))))))
  refine zm (J 3) Z (zm (.pointer (some ⟨b10, 0, none⟩)) Z ?_)
  obtain ⟨S162, hS163, hO164, K165⟩ := H150.takeN 1
  refine RL.call Tryz.call187 (rnum_ _ S162 b10 A129 n130 c131 bs132 bq133 hS163 ⟨(Dg hO164 (j := 2) Z hq137.1 (by omega)), hq137.2⟩) Z Z Z ?_
  rintro _ w166 ⟨x152, A153, n154, c155, bs156, bq157, rfl, g167, hnum158, hind159, hxle160⟩
  have H168 : Sp [Ae b10 213 [.slice A153 n154 c155, .bool bq157], Ae b18 47 [(J (x31 : Int)), (.slice none 0 0), (J (x55 : Int)), (J (x80 : Int)), (J (x104 : Int)), (J (x128 : Int)), (J 0), (.slice none 0 0)], Ae b2 47 zHeap, Bc w Bp] w166 := K165 _ _ g167
  have z169 := (H168.fix (i := 3) rfl).size
  have hq161 := hind159.r _ _ hq137
  refine zg Z (fa47_3 (b := ⟨b18, 3, none⟩) Z Z) (zg Z (Ex.ixA (b := ⟨b18, 6, none⟩) (i := 3) Tryz.underlying44 Tryz.sizeOf3 Z Z Z Z Z) (RL.st (vs := [(J (x152 : Int))]) (cs' := [(J (x31 : Int)), (.slice none 0 0), (J (x55 : Int)), (J (x80 : Int)), (J (x104 : Int)), (J (x128 : Int)), (J (x152 : Int)), (.slice none 0 0)]) Tryz.sizeOf3 (H168.ob (i := 1) Z) Z Z Z Z Z Z ?_))
  intro w170 hz171 g172 o173
  have H174 : Sp [Ae b10 213 [.slice A153 n154 c155, .bool bq157], Ae b18 47 [(J (x31 : Int)), (.slice none 0 0), (J (x55 : Int)), (J (x80 : Int)), (J (x104 : Int)), (J (x128 : Int)), (J (x152 : Int)), (.slice none 0 0)], Ae b2 47 zHeap, Bc w Bp] w170 := H168.setB (i := 1) rfl g172 o173 rfl
  have z175 := g172.size
  refine RL.nil (inB.n (thn.n (CW.region (zm (J 3) Z (zg Z (Ex.add (r := 4) Z Z Z) (za (J 4) Z (RL.nil (thn.n (Cs (CW.seq (CW.seq (CW.region (zm (J 4) Z (zg Z (Ex.lt (r := false) Z Z (by decide)) (RL.nil (thn.n (Ad Z (CW.exit (thn.x (thn.x (Bh (thn.n (CW.seq (CW.region ?_))))))))))))))))))))))))
  refine zm (.pointer (some ⟨b10, 0, none⟩)) Z ?_
  obtain ⟨S186, hS187, hO188, K189⟩ := H174.takeN 1
  refine RL.call Tryz.call187 (rnum_ _ S186 b10 A153 n154 c155 bs156 bq157 hS187 ⟨(Dg hO188 (j := 2) Z hq161.1 (by omega)), hq161.2⟩) Z Z Z ?_
  rintro _ w190 ⟨x176, A177, n178, c179, bs180, bq181, rfl, g191, hnum182, hind183, hxle184⟩
  have H192 : Sp [Ae b10 213 [.slice A177 n178 c179, .bool bq181], Ae b18 47 [(J (x31 : Int)), (.slice none 0 0), (J (x55 : Int)), (J (x80 : Int)), (J (x104 : Int)), (J (x128 : Int)), (J (x152 : Int)), (.slice none 0 0)], Ae b2 47 zHeap, Bc w Bp] w190 := K189 _ _ g191
  have z193 := (H192.fix (i := 3) rfl).size
  have hq185 := hind183.r _ _ hq161
  refine za (J (x176 : Int)) Z (RL.nil (thn.n (CW.seq (CW.seq (CW.region (za (J 0) Z (RL.nil (thn.n (CW.block ?_)))))))))
  have H194 := H192.nil_ 136 5
  have H195 : Sp [ObjsA ([]) ([]), At 136 5 none 0 0 (Cn ([])), Ae b10 213 [.slice A177 n178 c179, .bool bq181], Ae b18 47 [(J (x31 : Int)), (.slice none 0 0), (J (x55 : Int)), (J (x80 : Int)), (J (x104 : Int)), (J (x128 : Int)), (J (x152 : Int)), (.slice none 0 0)], Ae b2 47 zHeap, Bc w Bp] w190 := H194.obNil
  refine CW.loop (fun t => (Nat.ble 8 t && Nat.ble t 9) || (Nat.ble 31 t && Nat.ble t 54)) (fun nL ρ wl => ∃ (k n1 c1 no co : Nat) (A1 Ao : Option Addr) (ros : List RObj) (os : List Eng.Obj) (bs1 : List UInt8) (b1 : Bool), ρ 8 = (J (k : Int)) ∧ nL = 257 - k ∧ Sp [ObjsA ros os, At 136 5 Ao no co (Cn ros), Ae b10 213 [.slice A1 n1 c1, .bool b1], Ae b18 47 [(J (x31 : Int)), (.slice Ao no co), (J (x55 : Int)), (J (x80 : Int)), (J (x104 : Int)), (J (x128 : Int)), (J (x152 : Int)), (.slice none 0 0)], Ae b2 47 zHeap, Bc w Bp] wl ∧ k ≤ x176 ∧ k ≤ 257 ∧ manyF objF k (bs180, bq181) = (os, (bs1, b1)) ∧ no = k ∧ InD A177 n178 c179 bs180 A1 n1 c1 bs1) (257) ?aa1 ?bb1
  case aa1 =>
   exact ⟨0, n178, c179, 0, 0, A177, none, [], [], bs180, bq181, Z, Z, H195, Nat.zero_le _, by omega, Z, Z, InD.refl _ _ _ _⟩
  case bb1 =>
   rintro n197 ρ1 w196 ho198 ⟨k, n1, c1, no, co, A1, Ao, ros, os, bs1, b1, hs1_8, hn1, H199, hk1, hk2, hmy, hno, hin1⟩
   obtain ⟨j1, rfl⟩ := ho198.shape1 hs1_8
   clear ho198 hs1_8
   subst hn1
   have z200 := (H199.fix (i := 5) rfl).size
   have hq1 := hin1.r _ _ hq185
   refine CW.seq (CW.seq (CW.region (zm (J (k : Int)) Z (zm (J (x176 : Int)) Z ?_))))
   refine zc (((k : Int) : Int) < ((x176 : Int) : Int)) Z (fun r hr => Ex.lt Z Z hr) (fun h201 => ?_) (fun h201 => ?_)
   ·skip
    refine zm bT Z (zm (J (k : Int)) Z ?_)
    refine zc (((k : Int) : Int) ≤ (256 : Int)) Z (fun r hr => Ex.le Z Z hr) (fun h202 => ?_) (fun h202 => ?_)
    ·skip
     refine zT bT Z (zm bT Z (zm (.pointer (some ⟨b10, 0, none⟩)) Z (zg Z (Bj Z) (zg Z (fa213_1 (b := ⟨b10, 1, none⟩) Z Z) (zl (.bool b1) lo4 (H199.ob (i := 2) Z) Z ?_)))))
     rcases b1 with _ | _
     ·skip
      refine zg Z (Ex.not (b := false) Z) (zT bT Z (RL.nil (thn.n (Aa Z (CW.skip (thn.n (CW.seq (CW.block (CW.seq (CW.region (zm (.pointer (some ⟨b10, 0, none⟩)) Z ?_)))))))))))
      obtain ⟨S220, hS221, hO222, K223⟩ := Sp.takeL (l1 := [Ae b10 213 [.slice A1 n1 c1, .bool false]]) (l2 := [ObjsA ros os, At 136 5 Ao no co (Cn ros), Ae b18 47 [(J (x31 : Int)), (.slice Ao no co), (J (x55 : Int)), (J (x80 : Int)), (J (x104 : Int)), (J (x128 : Int)), (J (x152 : Int)), (.slice none 0 0)], Ae b2 47 zHeap, Bc w Bp]) (w := w196) (H199.sel [2, 0, 1, 3, 4, 5] (by decide) rfl)
      refine RL.call Tryz.call245 (robj_ _ S220 b10 A1 n1 c1 bs1 false hS221 ⟨(Dg hO222 (j := 4) Z hq1.1 (by omega)), hq1.2⟩) Z Z Z ?_
      rintro _ w224 ⟨o203, A204, n205, c206, A207, n208, c209, A210, n211, c212, bs213, bq214, rfl, g225, hob215, hind216, hnw217, hnl218⟩
      have H226 : Sp [Ae b10 213 [.slice A210 n211 c212, .bool bq214], At 3 1 A204 n205 c206 (ics o203.words), At 3 1 A207 n208 c209 (ics o203.links), ObjsA ros os, At 136 5 Ao no co (Cn ros), Ae b18 47 [(J (x31 : Int)), (.slice Ao no co), (J (x55 : Int)), (J (x80 : Int)), (J (x104 : Int)), (J (x128 : Int)), (J (x152 : Int)), (.slice none 0 0)], Ae b2 47 zHeap, Bc w Bp] w224 := K223 _ _ g225
      have z227 := (H226.fix (i := 7) rfl).size
      have hq219 := hind216.r _ _ hq1
      refine RL.al (cs := [(J 0), (J 0), (J 0), (.slice none 0 0), (.slice none 0 0)]) Tryz.zeroValue136 Z Z Z ?_
      intro w228 b229 hb230 hz231 g232 o233
      have H234 := H226.newB g232 o233 (by omega)
      have z235 := g232.size
      refine RL.st (vs := [(J o203.handle), (J o203.blk.at_), (J o203.blk.ord), (.slice A204 n205 c206), (.slice A207 n208 c209)]) (cs' := [(J o203.handle), (J o203.blk.at_), (J o203.blk.ord), (.slice A204 n205 c206), (.slice A207 n208 c209)]) Tryz.sizeOf136 (H234.ob (i := 0) Z) Z Z Z Z Z Z ?_
      intro w236 hz237 g238 o239
      have H240 : Sp [Ae b229 136 [(J o203.handle), (J o203.blk.at_), (J o203.blk.ord), (.slice A204 n205 c206), (.slice A207 n208 c209)], Ae b10 213 [.slice A210 n211 c212, .bool bq214], At 3 1 A204 n205 c206 (ics o203.words), At 3 1 A207 n208 c209 (ics o203.links), ObjsA ros os, At 136 5 Ao no co (Cn ros), Ae b18 47 [(J (x31 : Int)), (.slice Ao no co), (J (x55 : Int)), (J (x80 : Int)), (J (x104 : Int)), (J (x128 : Int)), (J (x152 : Int)), (.slice none 0 0)], Ae b2 47 zHeap, Bc w Bp] w236 := H234.setB (i := 0) rfl g238 o239 rfl
      have z241 := g238.size
      refine RL.nil (thn.n (CW.region (zg Z (fa47_1 (b := ⟨b18, 1, none⟩) Z Z) (zl (.slice Ao no co) lo43 (H240.ob (i := 6) Z) Z (zg Z (Ag Z (Ak (cs := [(J o203.handle), (J o203.blk.at_), (J o203.blk.ord), (.slice A204 n205 c206), (.slice A207 n208 c209)]) wh136 (H240.ob (i := 0) Z).cl)) (RL.bs (cs := [(J o203.handle), (J o203.blk.at_), (J o203.blk.ord), (.slice A204 n205 c206), (.slice A207 n208 c209)]) Tryz.underlying43 Tryz.sizeOf136 ze43 Z Z Z (by decide) Z Z Z ?_))))))
      intro w242 b243 hb244 hz245 g246 o247
      have H248 := H240.newB g246 o247 (by omega)
      have z249 := g246.size
      refine RL.apW (base := 0) (xss := (Cn ros)) (yss := (Cn ([(⟨o203.handle, o203.blk, ⟨A204, n205, c206⟩, ⟨A207, n208, c209⟩⟩ : RObj)]))) el43 (H248.wr (i := 6) Z) Z (Do (H248.ob (i := 0) Z) Z) Z (by simp only [Ap, Ar, Aq, Aj, Ai, Au, List.length_append, List.length_cons, List.length_nil, List.length_take, List.length_drop, List.length_map, Cq, Dk, Be, Bg, Cw]; try omega) (robjs_one _) (by omega) (by omega) (by omega) Z Z ?_
      intro w250 A251 c252 g253 ow254 nx255
      have H256 : Sp [Ae b243 136 [(J o203.handle), (J o203.blk.at_), (J o203.blk.ord), (.slice A204 n205 c206), (.slice A207 n208 c209)], Ae b229 136 [(J o203.handle), (J o203.blk.at_), (J o203.blk.ord), (.slice A204 n205 c206), (.slice A207 n208 c209)], Ae b10 213 [.slice A210 n211 c212, .bool bq214], At 3 1 A204 n205 c206 (ics o203.words), At 3 1 A207 n208 c209 (ics o203.links), ObjsA ros os, At 136 5 A251 (no + 1) c252 (Cn (ros ++ [(⟨o203.handle, o203.blk, ⟨A204, n205, c206⟩, ⟨A207, n208, c209⟩⟩ : RObj)])), Ae b18 47 [(J (x31 : Int)), (.slice Ao no co), (J (x55 : Int)), (J (x80 : Int)), (J (x104 : Int)), (J (x128 : Int)), (J (x152 : Int)), (.slice none 0 0)], Ae b2 47 zHeap, Bc w Bp] w250 := H248.setR (i := 6) rfl g253 ((robjs_app _ _).symm ▸ ow254) nx255 rfl
      have z257 := g253.size
      refine zg Z (fa47_1 (b := ⟨b18, 1, none⟩) Z Z) (RL.st (vs := [(.slice A251 (no + 1) c252)]) (cs' := [(J (x31 : Int)), (.slice A251 (no + 1) c252), (J (x55 : Int)), (J (x80 : Int)), (J (x104 : Int)), (J (x128 : Int)), (J (x152 : Int)), (.slice none 0 0)]) Tryz.sizeOf43 (H256.ob (i := 7) Z) Z Z Z Z Z Z ?_)
      intro w258 hz259 g260 o261
      have H262 : Sp [Ae b243 136 [(J o203.handle), (J o203.blk.at_), (J o203.blk.ord), (.slice A204 n205 c206), (.slice A207 n208 c209)], Ae b229 136 [(J o203.handle), (J o203.blk.at_), (J o203.blk.ord), (.slice A204 n205 c206), (.slice A207 n208 c209)], Ae b10 213 [.slice A210 n211 c212, .bool bq214], At 3 1 A204 n205 c206 (ics o203.words), At 3 1 A207 n208 c209 (ics o203.links), ObjsA ros os, At 136 5 A251 (no + 1) c252 (Cn (ros ++ [(⟨o203.handle, o203.blk, ⟨A204, n205, c206⟩, ⟨A207, n208, c209⟩⟩ : RObj)])), Ae b18 47 [(J (x31 : Int)), (.slice A251 (no + 1) c252), (J (x55 : Int)), (J (x80 : Int)), (J (x104 : Int)), (J (x128 : Int)), (J (x152 : Int)), (.slice none 0 0)], Ae b2 47 zHeap, Bc w Bp] w258 := H256.setB (i := 7) rfl g260 o261 rfl
      have z263 := g260.size
      refine RL.nil (inB.n (thn.n (CW.region (zm (J (k : Int)) Z (zg Z (Ex.add (r := (k : Int) + 1) Z Z (Dd (by omega) (by omega))) (za (J ((k : Int) + 1)) Z (RL.nil (thn.n ?_))))))))
      have H264 : Sp [ObjsA (ros ++ [(⟨o203.handle, o203.blk, ⟨A204, n205, c206⟩, ⟨A207, n208, c209⟩⟩ : RObj)]) (os ++ [o203]), Ae b243 136 [(J o203.handle), (J o203.blk.at_), (J o203.blk.ord), (.slice A204 n205 c206), (.slice A207 n208 c209)], Ae b229 136 [(J o203.handle), (J o203.blk.at_), (J o203.blk.ord), (.slice A204 n205 c206), (.slice A207 n208 c209)], Ae b10 213 [.slice A210 n211 c212, .bool bq214], At 136 5 A251 (no + 1) c252 (Cn (ros ++ [(⟨o203.handle, o203.blk, ⟨A204, n205, c206⟩, ⟨A207, n208, c209⟩⟩ : RObj)])), Ae b18 47 [(J (x31 : Int)), (.slice A251 (no + 1) c252), (J (x55 : Int)), (J (x80 : Int)), (J (x104 : Int)), (J (x128 : Int)), (J (x152 : Int)), (.slice none 0 0)], Ae b2 47 zHeap, Bc w Bp] w258 := (Sp.obSnoc (ros := ros) (os := os) (o := o203) (H262.sel [5, 3, 4, 0, 1, 2, 6, 7, 8, 9] (by decide) rfl) (by omega) (by omega))
      refine ⟨(by repeat (first | exact Out.mix _ _ | exact Out.refl _ _ | refine Bf ?_ Z _ | refine Ch ?_ (by intro t ht; simp only [Bool.or_eq_false_iff, Bool.and_eq_false_iff, ble_f, beq_f] at ht ⊢; omega))), _, ?_, k + 1, n211, c212, no + 1, c252, A210, A251, ros ++ [(⟨o203.handle, o203.blk, ⟨A204, n205, c206⟩, ⟨A207, n208, c209⟩⟩ : RObj)], os ++ [o203], bs213, bq214, Z, Z, (H264.sel [0, 4, 3, 5, 6, 7] (by decide) Z), by omega, by omega, manyF_go hmy hob215, by omega, hin1.trans hind216⟩
      omega
     ·skip
      refine zg Z (Ex.not (b := true) Z) (zT bF Z (RL.nil (thn.n (Ad Z (CW.exit (thn.x (thn.x (Bh (thn.n (CW.seq (CW.seq ?_)))))))))))
      have hgh := getHeap_ref hnum37 hnum61 hnum86 hnum110 hnum134 hnum158 hnum182 hmy (by omega) (by first | exact .inl (by omega) | exact .inr (.inl (by omega)) | exact .inr (.inr rfl))
      have hob := H199.obR (i := 0) rfl
      have hobl := hob.1
      have hrl := H199.len (i := 1) rfl
      rw [Ai] at hrl
      have hmb := map_blk hob
      have hq1l := hq1.2.1
      refine CW.region (zm (.pointer (some ⟨b10, 0, none⟩)) Z (zg Z (Bj Z) (zg Z (fa213_1 (b := ⟨b10, 1, none⟩) Z Z) (zl (bT) lo4 (H199.ob (i := 2) Z) Z (zm bT Z (zo Z (zo Z (zo Z (zo Z (zo Z ?_))))))))))
      refine zo Z (zT bT Z (zm bT Z (zo Z (zo Z (zo Z (zo Z (zT bT Z (zm bT Z (zo Z (zo Z ?_))))))))))
      refine zo Z (zo Z (zo Z (zT bT Z (RL.nil (thn.n (Aa Z (CW.seq (CW.region (zg Z (Ce (cs := zHeap) bd47 Z) (RL.st (vs := zHeap) (cs' := zHeap) Tryz.sizeOf47 (H199.ob (i := 4) Z) Z Z Z Z Z Z ?_))))))))))
      intro w265 hz266 g267 o268
      have H269 : Sp [ObjsA ros os, At 136 5 Ao no co (Cn ros), Ae b10 213 [.slice A1 n1 c1, .bool true], Ae b18 47 [(J (x31 : Int)), (.slice Ao no co), (J (x55 : Int)), (J (x80 : Int)), (J (x104 : Int)), (J (x128 : Int)), (J (x152 : Int)), (.slice none 0 0)], Ae b2 47 zHeap, Bc w Bp] w265 := H199.setB (i := 4) rfl g267 o268 rfl
      have z270 := g267.size
      refine za (J 60) Z (RL.nil (thn.n (CW.ret (thn.r (finQ.r (v := (.tuple #[(.agg (zHeap).toArray), (J 60)])) (Dc Z (Rv.cell Z (Ak (cs := zHeap) wh47 (H269.ob (i := 4) Z).cl)) (Rv.tmp Z)) ?_)))))
      exact .inr ⟨rfl, (H269.fix (i := 5) rfl), by rw [hgh, if_neg (fun ⟨q1, q2, q3, q4, q5⟩ => by first | (cases q1; done) | (rw [q2] at hq1l; simp only [List.length_nil] at hq1l; omega) | omega)]⟩
    ·skip
     refine zT bF Z (zm bF Z (zo Z (zo Z (zo Z (zo Z (zo Z (zF bF Z (RL.nil (thn.n (Ad Z (CW.exit (thn.x (thn.x (Bh (thn.n (CW.seq (CW.seq ?_)))))))))))))))))
     have hgh := getHeap_ref hnum37 hnum61 hnum86 hnum110 hnum134 hnum158 hnum182 hmy (by omega) (by first | exact .inl (by omega) | exact .inr (.inl (by omega)) | exact .inr (.inr rfl))
     have hob := H199.obR (i := 0) rfl
     have hobl := hob.1
     have hrl := H199.len (i := 1) rfl
     rw [Ai] at hrl
     have hmb := map_blk hob
     have hq1l := hq1.2.1
     refine CW.region (zm (.pointer (some ⟨b10, 0, none⟩)) Z (zg Z (Bj Z) (zg Z (fa213_1 (b := ⟨b10, 1, none⟩) Z Z) (zl (.bool b1) lo4 (H199.ob (i := 2) Z) Z ?_))))
     rcases b1 with _ | _
     ·skip
      refine zm bF Z (zm (.pointer (some ⟨b10, 0, none⟩)) Z (zg Z (Bj Z) (zg Z (fa213_0 (b := ⟨b10, 0, none⟩) Z Z) (zl (.slice A1 n1 c1) lo97 (H199.ob (i := 2) Z) Z (zg Z (Ex.len Tryz.underlying97 Z) ?_)))))
      refine zc ((0 : Int) < ((n1 : Nat) : Int)) Z (fun r hr => Cv Z Z hr) (fun h271 => ?_) (fun h271 => ?_)
      ·skip
       refine zF bT Z (zm bT Z (zo Z (zo Z (zo Z (zo Z (zT bT Z (zm bT Z (zo Z (zo Z (zo Z ?_))))))))))
       refine zo Z (zo Z (zT bT Z (RL.nil (thn.n (Aa Z (CW.seq (CW.region (zg Z (Ce (cs := zHeap) bd47 Z) (RL.st (vs := zHeap) (cs' := zHeap) Tryz.sizeOf47 (H199.ob (i := 4) Z) Z Z Z Z Z Z ?_)))))))))
       intro w272 hz273 g274 o275
       have H276 : Sp [ObjsA ros os, At 136 5 Ao no co (Cn ros), Ae b10 213 [.slice A1 n1 c1, .bool false], Ae b18 47 [(J (x31 : Int)), (.slice Ao no co), (J (x55 : Int)), (J (x80 : Int)), (J (x104 : Int)), (J (x128 : Int)), (J (x152 : Int)), (.slice none 0 0)], Ae b2 47 zHeap, Bc w Bp] w272 := H199.setB (i := 4) rfl g274 o275 rfl
       have z277 := g274.size
       refine za (J 60) Z (RL.nil (thn.n (CW.ret (thn.r (finQ.r (v := (.tuple #[(.agg (zHeap).toArray), (J 60)])) (Dc Z (Rv.cell Z (Ak (cs := zHeap) wh47 (H276.ob (i := 4) Z).cl)) (Rv.tmp Z)) ?_)))))
       exact .inr ⟨rfl, (H276.fix (i := 5) rfl), by rw [hgh, if_neg (fun ⟨q1, q2, q3, q4, q5⟩ => by first | (cases q1; done) | (rw [q2] at hq1l; simp only [List.length_nil] at hq1l; omega) | omega)]⟩
      ·skip
       refine zF bF Z (zm bF Z (zg Z (fa47_0 (b := ⟨b18, 0, none⟩) Z Z) (zl (J (x31 : Int)) Bw (H199.ob (i := 3) Z) Z (RL.call Tryz.call235 (reg_ _ (x31 : Int)) Z Z Z ?_))))
       rintro _ w278 ⟨rfl, g279⟩
       have H280 := H199.grow g279
       have z281 := g279.size
       rcases hb282 : (Ay (x31 : Int) 3 8) with _ | _
       ·have hwf := withinB_f hb282
        refine zg Z (Ex.not (b := false) Z) (zF bT Z (zm bT Z (zo Z (zo Z (zo Z (zo Z (zo Z (zT bT Z (RL.nil (thn.n (Aa Z (CW.seq (CW.region (zg Z (Ce (cs := zHeap) bd47 Z) ?_))))))))))))))
        refine RL.st (vs := zHeap) (cs' := zHeap) Tryz.sizeOf47 (H280.ob (i := 4) Z) Z Z Z Z Z Z ?_
        intro w283 hz284 g285 o286
        have H287 : Sp [ObjsA ros os, At 136 5 Ao no co (Cn ros), Ae b10 213 [.slice A1 n1 c1, .bool false], Ae b18 47 [(J (x31 : Int)), (.slice Ao no co), (J (x55 : Int)), (J (x80 : Int)), (J (x104 : Int)), (J (x128 : Int)), (J (x152 : Int)), (.slice none 0 0)], Ae b2 47 zHeap, Bc w Bp] w283 := H280.setB (i := 4) rfl g285 o286 rfl
        have z288 := g285.size
        refine za (J 60) Z (RL.nil (thn.n (CW.ret (thn.r (finQ.r (v := (.tuple #[(.agg (zHeap).toArray), (J 60)])) (Dc Z (Rv.cell Z (Ak (cs := zHeap) wh47 (H287.ob (i := 4) Z).cl)) (Rv.tmp Z)) ?_)))))
        exact .inr ⟨rfl, (H287.fix (i := 5) rfl), by rw [hgh, if_neg (fun ⟨q1, q2, q3, q4, q5⟩ => by first | (cases q1; done) | (rw [q2] at hq1l; simp only [List.length_nil] at hq1l; omega) | (rw [hb282] at q3; cases q3) | (rw [hb282] at q5; cases q5) | omega)]⟩
       ·have hwt := Bd hb282
        refine zg Z (Ex.not (b := true) Z) (zF bF Z (zm bF Z (zm (J (x176 : Int)) Z (zg Z (fa47_1 (b := ⟨b18, 1, none⟩) Z Z) (zl (.slice Ao no co) lo43 (H280.ob (i := 3) Z) Z (zg Z (Ex.len Tryz.underlying43 Z) ?_))))))
        refine zc (((x176 : Int) : Int) ≠ ((no : Nat) : Int)) Z (fun r hr => Cd Z Z hr) (fun h289 => ?_) (fun h289 => ?_)
        ·skip
         refine zF bT Z (RL.nil (thn.n (Aa Z (CW.seq (CW.region (zg Z (Ce (cs := zHeap) bd47 Z) (RL.st (vs := zHeap) (cs' := zHeap) Tryz.sizeOf47 (H280.ob (i := 4) Z) Z Z Z Z Z Z ?_)))))))
         intro w290 hz291 g292 o293
         have H294 : Sp [ObjsA ros os, At 136 5 Ao no co (Cn ros), Ae b10 213 [.slice A1 n1 c1, .bool false], Ae b18 47 [(J (x31 : Int)), (.slice Ao no co), (J (x55 : Int)), (J (x80 : Int)), (J (x104 : Int)), (J (x128 : Int)), (J (x152 : Int)), (.slice none 0 0)], Ae b2 47 zHeap, Bc w Bp] w290 := H280.setB (i := 4) rfl g292 o293 rfl
         have z295 := g292.size
         refine za (J 60) Z (RL.nil (thn.n (CW.ret (thn.r (finQ.r (v := (.tuple #[(.agg (zHeap).toArray), (J 60)])) (Dc Z (Rv.cell Z (Ak (cs := zHeap) wh47 (H294.ob (i := 4) Z).cl)) (Rv.tmp Z)) ?_)))))
         exact .inr ⟨rfl, (H294.fix (i := 5) rfl), by rw [hgh, if_neg (fun ⟨q1, q2, q3, q4, q5⟩ => by first | (cases q1; done) | (rw [q2] at hq1l; simp only [List.length_nil] at hq1l; omega) | (rw [hb282] at q3; cases q3) | (rw [hb282] at q5; cases q5) | omega)]⟩
        ·skip
         refine zF bF Z (RL.nil (thn.n (Ad Z (CW.skip (thn.n (CW.seq ?_))))))
         have hxb := obs_bd hmb (many_ok hmy)
         refine CW.region (zg Z (fa47_0 (b := ⟨b18, 0, none⟩) Z Z) (zl (J (x31 : Int)) Bw (H280.ob (i := 3) Z) Z (zg Z (fa47_1 (b := ⟨b18, 1, none⟩) Z Z) (zl (.slice Ao no co) lo43 (H280.ob (i := 3) Z) Z (RL.call Tryz.call246 (freeR_ _ w278.heap.size (x31 : Int) ros Ao no co ((H280.rowrd (i := 1) Z).more (Nat.le_refl _)) (by first | assumption | omega) (Nat.le_refl _) (by omega) (by first | assumption | omega) hxb) Z Z Z ?_)))))
         rintro _ w300 ⟨A296, n297, c298, rfl, g301, hn6299⟩
         have g302 := g301.fix (i := 1) rfl
         have H303 : Sp [At 133 2 A296 n297 c298 (Cp ((Dl (Af (x31 : Int)) (ros.map RObj.blk) [⟨0, (x31 : Int)⟩]))), ObjsA ros os, At 136 5 Ao no co (Cn ros), Ae b10 213 [.slice A1 n1 c1, .bool false], Ae b18 47 [(J (x31 : Int)), (.slice Ao no co), (J (x55 : Int)), (J (x80 : Int)), (J (x104 : Int)), (J (x128 : Int)), (J (x152 : Int)), (.slice none 0 0)], Ae b2 47 zHeap, Bc w Bp] w300 := H280.join (m := [At 133 2 A296 n297 c298 (Cp ((Dl (Af (x31 : Int)) (ros.map RObj.blk) [⟨0, (x31 : Int)⟩])))]) g301
         have z304 := g302.size
         refine zg Z (fa47_4 (b := ⟨b18, 7, none⟩) Z Z) (RL.st (vs := [(.slice A296 n297 c298)]) (cs' := [(J (x31 : Int)), (.slice Ao no co), (J (x55 : Int)), (J (x80 : Int)), (J (x104 : Int)), (J (x128 : Int)), (J (x152 : Int)), (.slice A296 n297 c298)]) Tryz.sizeOf45 (H303.ob (i := 4) Z) Z Z Z Z Z Z ?_)
         intro w305 hz306 g307 o308
         have H309 : Sp [At 133 2 A296 n297 c298 (Cp ((Dl (Af (x31 : Int)) (ros.map RObj.blk) [⟨0, (x31 : Int)⟩]))), ObjsA ros os, At 136 5 Ao no co (Cn ros), Ae b10 213 [.slice A1 n1 c1, .bool false], Ae b18 47 [(J (x31 : Int)), (.slice Ao no co), (J (x55 : Int)), (J (x80 : Int)), (J (x104 : Int)), (J (x128 : Int)), (J (x152 : Int)), (.slice A296 n297 c298)], Ae b2 47 zHeap, Bc w Bp] w305 := H303.setB (i := 4) rfl g307 o308 rfl
         have z310 := g307.size
         refine RL.nil (thn.n (CW.seq (CW.seq ?_)))
         rw [hmb] at H309
         have H311 : Sp [HpW (⟨(x31 : Int), ⟨Ao, no, co⟩, (x55 : Int), (x80 : Int), (x104 : Int), (x128 : Int), (x152 : Int), ⟨A296, n297, c298⟩⟩ : RHeap) ros (⟨(x31 : Int), os, (x55 : Int), (x80 : Int), (x104 : Int), (x128 : Int), (x152 : Int), (Dl (Af (x31 : Int)) (os.map Obj.blk) [⟨0, (x31 : Int)⟩])⟩ : Eng.Heap), Ae b10 213 [.slice A1 n1 c1, .bool false], Ae b18 47 [(J (x31 : Int)), (.slice Ao no co), (J (x55 : Int)), (J (x80 : Int)), (J (x104 : Int)), (J (x128 : Int)), (J (x152 : Int)), (.slice A296 n297 c298)], Ae b2 47 zHeap, Bc w Bp] w305 := (Sp.hpMk (rh := (⟨(x31 : Int), ⟨Ao, no, co⟩, (x55 : Int), (x80 : Int), (x104 : Int), (x128 : Int), (x152 : Int), ⟨A296, n297, c298⟩⟩ : RHeap)) (ros := ros) (hh := (⟨(x31 : Int), os, (x55 : Int), (x80 : Int), (x104 : Int), (x128 : Int), (x152 : Int), (Dl (Af (x31 : Int)) (os.map Obj.blk) [⟨0, (x31 : Int)⟩])⟩ : Eng.Heap)) (H309.sel [2, 1, 0, 3, 4, 5, 6] (by decide) rfl) ⟨rfl, rfl, rfl, by show no ≤ _; omega, by show n297 ≤ _; omega⟩)
         refine CW.region (zg Z (Ag Z (Ak (cs := [(J (x31 : Int)), (.slice Ao no co), (J (x55 : Int)), (J (x80 : Int)), (J (x104 : Int)), (J (x128 : Int)), (J (x152 : Int)), (.slice A296 n297 c298)]) wh47 (H311.ob (i := 2) Z).cl)) (RL.call Tryz.call167 (right05_ _ _ (⟨(x31 : Int), ⟨Ao, no, co⟩, (x55 : Int), (x80 : Int), (x104 : Int), (x128 : Int), (x152 : Int), ⟨A296, n297, c298⟩⟩ : RHeap) _ _ (H311.hpWR (i := 0) Z) (Nat.le_refl _) (by first | assumption | omega | (dsimp only; omega))) Z Z Z ?_))
         rintro _ w312 ⟨rfl, g313⟩
         have H314 := H311.grow g313
         have z315 := g313.size
         rcases hb316 : (Cz ((⟨(x31 : Int), os, (x55 : Int), (x80 : Int), (x104 : Int), (x128 : Int), (x152 : Int), (Dl (Af (x31 : Int)) (os.map Obj.blk) [⟨0, (x31 : Int)⟩])⟩ : Eng.Heap))) with _ | _
         ·skip
          refine zg Z (Ex.not (b := false) Z) (RL.nil (thn.n (Aa Z (CW.seq (CW.region (zg Z (Ce (cs := zHeap) bd47 Z) (RL.st (vs := zHeap) (cs' := zHeap) Tryz.sizeOf47 (H314.ob (i := 3) Z) Z Z Z Z Z Z ?_)))))))
          intro w317 hz318 g319 o320
          have H321 : Sp [HpW (⟨(x31 : Int), ⟨Ao, no, co⟩, (x55 : Int), (x80 : Int), (x104 : Int), (x128 : Int), (x152 : Int), ⟨A296, n297, c298⟩⟩ : RHeap) ros (⟨(x31 : Int), os, (x55 : Int), (x80 : Int), (x104 : Int), (x128 : Int), (x152 : Int), (Dl (Af (x31 : Int)) (os.map Obj.blk) [⟨0, (x31 : Int)⟩])⟩ : Eng.Heap), Ae b10 213 [.slice A1 n1 c1, .bool false], Ae b18 47 [(J (x31 : Int)), (.slice Ao no co), (J (x55 : Int)), (J (x80 : Int)), (J (x104 : Int)), (J (x128 : Int)), (J (x152 : Int)), (.slice A296 n297 c298)], Ae b2 47 zHeap, Bc w Bp] w317 := H314.setB (i := 3) rfl g319 o320 rfl
          have z322 := g319.size
          refine za (J 60) Z (RL.nil (thn.n (CW.ret (thn.r (finQ.r (v := (.tuple #[(.agg (zHeap).toArray), (J 60)])) (Dc Z (Rv.cell Z (Ak (cs := zHeap) wh47 (H321.ob (i := 3) Z).cl)) (Rv.tmp Z)) ?_)))))
          exact .inr ⟨rfl, (H321.fix (i := 4) rfl), by rw [hgh, if_neg (fun ⟨q1, q2, q3, q4, q5⟩ => by first | (cases q1; done) | (rw [q2] at hq1l; simp only [List.length_nil] at hq1l; omega) | (rw [hb316] at q3; cases q3) | (rw [hb316] at q5; cases q5) | omega)]⟩
         ·skip
          refine zg Z (Ex.not (b := true) Z) (RL.nil (thn.n (Ad Z (CW.skip (thn.n (CW.seq (CW.region (zg Z (Ag Z (Ak (cs := [(J (x31 : Int)), (.slice Ao no co), (J (x55 : Int)), (J (x80 : Int)), (J (x104 : Int)), (J (x128 : Int)), (J (x152 : Int)), (.slice A296 n297 c298)]) wh47 (H314.ob (i := 2) Z).cl)) (RL.st (vs := [(J (x31 : Int)), (.slice Ao no co), (J (x55 : Int)), (J (x80 : Int)), (J (x104 : Int)), (J (x128 : Int)), (J (x152 : Int)), (.slice A296 n297 c298)]) (cs' := [(J (x31 : Int)), (.slice Ao no co), (J (x55 : Int)), (J (x80 : Int)), (J (x104 : Int)), (J (x128 : Int)), (J (x152 : Int)), (.slice A296 n297 c298)]) Tryz.sizeOf47 (H314.ob (i := 3) Z) Z Z Z Z Z Z ?_)))))))))
          intro w323 hz324 g325 o326
          have H327 : Sp [HpW (⟨(x31 : Int), ⟨Ao, no, co⟩, (x55 : Int), (x80 : Int), (x104 : Int), (x128 : Int), (x152 : Int), ⟨A296, n297, c298⟩⟩ : RHeap) ros (⟨(x31 : Int), os, (x55 : Int), (x80 : Int), (x104 : Int), (x128 : Int), (x152 : Int), (Dl (Af (x31 : Int)) (os.map Obj.blk) [⟨0, (x31 : Int)⟩])⟩ : Eng.Heap), Ae b10 213 [.slice A1 n1 c1, .bool false], Ae b18 47 [(J (x31 : Int)), (.slice Ao no co), (J (x55 : Int)), (J (x80 : Int)), (J (x104 : Int)), (J (x128 : Int)), (J (x152 : Int)), (.slice A296 n297 c298)], Ae b2 47 [(J (x31 : Int)), (.slice Ao no co), (J (x55 : Int)), (J (x80 : Int)), (J (x104 : Int)), (J (x128 : Int)), (J (x152 : Int)), (.slice A296 n297 c298)], Bc w Bp] w323 := H314.setB (i := 3) rfl g325 o326 rfl
          have z328 := g325.size
          refine za (J 0) Z (RL.nil (thn.n (CW.ret (finQ.r (v := (.tuple #[(.agg ([(J (x31 : Int)), (.slice Ao no co), (J (x55 : Int)), (J (x80 : Int)), (J (x104 : Int)), (J (x128 : Int)), (J (x152 : Int)), (.slice A296 n297 c298)]).toArray), (J 0)])) (Dc Z (Rv.cell Z (Ak (cs := [(J (x31 : Int)), (.slice Ao no co), (J (x55 : Int)), (J (x80 : Int)), (J (x104 : Int)), (J (x128 : Int)), (J (x152 : Int)), (.slice A296 n297 c298)]) wh47 (H327.ob (i := 3) Z).cl)) (Rv.tmp Z)) ?_))))
          exact .inl ⟨(⟨(x31 : Int), ⟨Ao, no, co⟩, (x55 : Int), (x80 : Int), (x104 : Int), (x128 : Int), (x152 : Int), ⟨A296, n297, c298⟩⟩ : RHeap), ros, _, Z, (H327.sel [0, 4] (by decide) Z), by rw [hgh, if_pos ⟨Z, List.eq_nil_of_length_eq_zero (by omega), hb282, by omega, hb316⟩], hb316⟩
     ·skip
      refine zm bT Z (zo Z (zo Z (zo Z (zo Z (zo Z (zo Z (zT bT Z (zm bT Z (zo Z (zo Z ?_))))))))))
      refine zo Z (zo Z (zT bT Z (zm bT Z (zo Z (zo Z (zo Z (zo Z (zo Z (zT bT Z (RL.nil (thn.n (Aa Z (CW.seq (CW.region ?_))))))))))))))
      refine zg Z (Ce (cs := zHeap) bd47 Z) (RL.st (vs := zHeap) (cs' := zHeap) Tryz.sizeOf47 (H199.ob (i := 4) Z) Z Z Z Z Z Z ?_)
      intro w329 hz330 g331 o332
      have H333 : Sp [ObjsA ros os, At 136 5 Ao no co (Cn ros), Ae b10 213 [.slice A1 n1 c1, .bool true], Ae b18 47 [(J (x31 : Int)), (.slice Ao no co), (J (x55 : Int)), (J (x80 : Int)), (J (x104 : Int)), (J (x128 : Int)), (J (x152 : Int)), (.slice none 0 0)], Ae b2 47 zHeap, Bc w Bp] w329 := H199.setB (i := 4) rfl g331 o332 rfl
      have z334 := g331.size
      refine za (J 60) Z (RL.nil (thn.n (CW.ret (thn.r (finQ.r (v := (.tuple #[(.agg (zHeap).toArray), (J 60)])) (Dc Z (Rv.cell Z (Ak (cs := zHeap) wh47 (H333.ob (i := 4) Z).cl)) (Rv.tmp Z)) ?_)))))
      exact .inr ⟨rfl, (H333.fix (i := 5) rfl), by rw [hgh, if_neg (fun ⟨q1, q2, q3, q4, q5⟩ => by first | (cases q1; done) | (rw [q2] at hq1l; simp only [List.length_nil] at hq1l; omega) | omega)]⟩
   ·skip
    refine zm bF Z (zo Z (zo Z (zF bF Z (zm bF Z (zo Z (zo Z (zo Z (zo Z (zo Z (zF bF Z ?_))))))))))
    refine RL.nil (thn.n (Ad Z (CW.exit (thn.x (thn.x (Bh (thn.n (CW.seq (CW.seq ?_)))))))))
    have hgh := getHeap_ref hnum37 hnum61 hnum86 hnum110 hnum134 hnum158 hnum182 hmy (by omega) (by first | exact .inl (by omega) | exact .inr (.inl (by omega)) | exact .inr (.inr rfl))
    have hob := H199.obR (i := 0) rfl
    have hobl := hob.1
    have hrl := H199.len (i := 1) rfl
    rw [Ai] at hrl
    have hmb := map_blk hob
    have hq1l := hq1.2.1
    refine CW.region (zm (.pointer (some ⟨b10, 0, none⟩)) Z (zg Z (Bj Z) (zg Z (fa213_1 (b := ⟨b10, 1, none⟩) Z Z) (zl (.bool b1) lo4 (H199.ob (i := 2) Z) Z ?_))))
    rcases b1 with _ | _
    ·skip
     refine zm bF Z (zm (.pointer (some ⟨b10, 0, none⟩)) Z (zg Z (Bj Z) (zg Z (fa213_0 (b := ⟨b10, 0, none⟩) Z Z) (zl (.slice A1 n1 c1) lo97 (H199.ob (i := 2) Z) Z (zg Z (Ex.len Tryz.underlying97 Z) ?_)))))
     refine zc ((0 : Int) < ((n1 : Nat) : Int)) Z (fun r hr => Cv Z Z hr) (fun h335 => ?_) (fun h335 => ?_)
     ·skip
      refine zF bT Z (zm bT Z (zo Z (zo Z (zo Z (zo Z (zT bT Z (zm bT Z (zo Z (zo Z (zo Z ?_))))))))))
      refine zo Z (zo Z (zT bT Z (RL.nil (thn.n (Aa Z (CW.seq (CW.region (zg Z (Ce (cs := zHeap) bd47 Z) (RL.st (vs := zHeap) (cs' := zHeap) Tryz.sizeOf47 (H199.ob (i := 4) Z) Z Z Z Z Z Z ?_)))))))))
      intro w336 hz337 g338 o339
      have H340 : Sp [ObjsA ros os, At 136 5 Ao no co (Cn ros), Ae b10 213 [.slice A1 n1 c1, .bool false], Ae b18 47 [(J (x31 : Int)), (.slice Ao no co), (J (x55 : Int)), (J (x80 : Int)), (J (x104 : Int)), (J (x128 : Int)), (J (x152 : Int)), (.slice none 0 0)], Ae b2 47 zHeap, Bc w Bp] w336 := H199.setB (i := 4) rfl g338 o339 rfl
      have z341 := g338.size
      refine za (J 60) Z (RL.nil (thn.n (CW.ret (thn.r (finQ.r (v := (.tuple #[(.agg (zHeap).toArray), (J 60)])) (Dc Z (Rv.cell Z (Ak (cs := zHeap) wh47 (H340.ob (i := 4) Z).cl)) (Rv.tmp Z)) ?_)))))
      exact .inr ⟨rfl, (H340.fix (i := 5) rfl), by rw [hgh, if_neg (fun ⟨q1, q2, q3, q4, q5⟩ => by first | (cases q1; done) | (rw [q2] at hq1l; simp only [List.length_nil] at hq1l; omega) | omega)]⟩
     ·skip
      refine zF bF Z (zm bF Z (zg Z (fa47_0 (b := ⟨b18, 0, none⟩) Z Z) (zl (J (x31 : Int)) Bw (H199.ob (i := 3) Z) Z (RL.call Tryz.call235 (reg_ _ (x31 : Int)) Z Z Z ?_))))
      rintro _ w342 ⟨rfl, g343⟩
      have H344 := H199.grow g343
      have z345 := g343.size
      rcases hb346 : (Ay (x31 : Int) 3 8) with _ | _
      ·have hwf := withinB_f hb346
       refine zg Z (Ex.not (b := false) Z) (zF bT Z (zm bT Z (zo Z (zo Z (zo Z (zo Z (zo Z (zT bT Z (RL.nil (thn.n (Aa Z (CW.seq (CW.region (zg Z (Ce (cs := zHeap) bd47 Z) ?_))))))))))))))
       refine RL.st (vs := zHeap) (cs' := zHeap) Tryz.sizeOf47 (H344.ob (i := 4) Z) Z Z Z Z Z Z ?_
       intro w347 hz348 g349 o350
       have H351 : Sp [ObjsA ros os, At 136 5 Ao no co (Cn ros), Ae b10 213 [.slice A1 n1 c1, .bool false], Ae b18 47 [(J (x31 : Int)), (.slice Ao no co), (J (x55 : Int)), (J (x80 : Int)), (J (x104 : Int)), (J (x128 : Int)), (J (x152 : Int)), (.slice none 0 0)], Ae b2 47 zHeap, Bc w Bp] w347 := H344.setB (i := 4) rfl g349 o350 rfl
       have z352 := g349.size
       refine za (J 60) Z (RL.nil (thn.n (CW.ret (thn.r (finQ.r (v := (.tuple #[(.agg (zHeap).toArray), (J 60)])) (Dc Z (Rv.cell Z (Ak (cs := zHeap) wh47 (H351.ob (i := 4) Z).cl)) (Rv.tmp Z)) ?_)))))
       exact .inr ⟨rfl, (H351.fix (i := 5) rfl), by rw [hgh, if_neg (fun ⟨q1, q2, q3, q4, q5⟩ => by first | (cases q1; done) | (rw [q2] at hq1l; simp only [List.length_nil] at hq1l; omega) | (rw [hb346] at q3; cases q3) | (rw [hb346] at q5; cases q5) | omega)]⟩
      ·have hwt := Bd hb346
       refine zg Z (Ex.not (b := true) Z) (zF bF Z (zm bF Z (zm (J (x176 : Int)) Z (zg Z (fa47_1 (b := ⟨b18, 1, none⟩) Z Z) (zl (.slice Ao no co) lo43 (H344.ob (i := 3) Z) Z (zg Z (Ex.len Tryz.underlying43 Z) ?_))))))
       refine zc (((x176 : Int) : Int) ≠ ((no : Nat) : Int)) Z (fun r hr => Cd Z Z hr) (fun h353 => ?_) (fun h353 => ?_)
       ·skip
        refine zF bT Z (RL.nil (thn.n (Aa Z (CW.seq (CW.region (zg Z (Ce (cs := zHeap) bd47 Z) (RL.st (vs := zHeap) (cs' := zHeap) Tryz.sizeOf47 (H344.ob (i := 4) Z) Z Z Z Z Z Z ?_)))))))
        intro w354 hz355 g356 o357
        have H358 : Sp [ObjsA ros os, At 136 5 Ao no co (Cn ros), Ae b10 213 [.slice A1 n1 c1, .bool false], Ae b18 47 [(J (x31 : Int)), (.slice Ao no co), (J (x55 : Int)), (J (x80 : Int)), (J (x104 : Int)), (J (x128 : Int)), (J (x152 : Int)), (.slice none 0 0)], Ae b2 47 zHeap, Bc w Bp] w354 := H344.setB (i := 4) rfl g356 o357 rfl
        have z359 := g356.size
        refine za (J 60) Z (RL.nil (thn.n (CW.ret (thn.r (finQ.r (v := (.tuple #[(.agg (zHeap).toArray), (J 60)])) (Dc Z (Rv.cell Z (Ak (cs := zHeap) wh47 (H358.ob (i := 4) Z).cl)) (Rv.tmp Z)) ?_)))))
        exact .inr ⟨rfl, (H358.fix (i := 5) rfl), by rw [hgh, if_neg (fun ⟨q1, q2, q3, q4, q5⟩ => by first | (cases q1; done) | (rw [q2] at hq1l; simp only [List.length_nil] at hq1l; omega) | (rw [hb346] at q3; cases q3) | (rw [hb346] at q5; cases q5) | omega)]⟩
       ·skip
        refine zF bF Z (RL.nil (thn.n (Ad Z (CW.skip (thn.n (CW.seq ?_))))))
        have hxb := obs_bd hmb (many_ok hmy)
        refine CW.region (zg Z (fa47_0 (b := ⟨b18, 0, none⟩) Z Z) (zl (J (x31 : Int)) Bw (H344.ob (i := 3) Z) Z (zg Z (fa47_1 (b := ⟨b18, 1, none⟩) Z Z) (zl (.slice Ao no co) lo43 (H344.ob (i := 3) Z) Z (RL.call Tryz.call246 (freeR_ _ w342.heap.size (x31 : Int) ros Ao no co ((H344.rowrd (i := 1) Z).more (Nat.le_refl _)) (by first | assumption | omega) (Nat.le_refl _) (by omega) (by first | assumption | omega) hxb) Z Z Z ?_)))))
        rintro _ w364 ⟨A360, n361, c362, rfl, g365, hn6363⟩
        have g366 := g365.fix (i := 1) rfl
        have H367 : Sp [At 133 2 A360 n361 c362 (Cp ((Dl (Af (x31 : Int)) (ros.map RObj.blk) [⟨0, (x31 : Int)⟩]))), ObjsA ros os, At 136 5 Ao no co (Cn ros), Ae b10 213 [.slice A1 n1 c1, .bool false], Ae b18 47 [(J (x31 : Int)), (.slice Ao no co), (J (x55 : Int)), (J (x80 : Int)), (J (x104 : Int)), (J (x128 : Int)), (J (x152 : Int)), (.slice none 0 0)], Ae b2 47 zHeap, Bc w Bp] w364 := H344.join (m := [At 133 2 A360 n361 c362 (Cp ((Dl (Af (x31 : Int)) (ros.map RObj.blk) [⟨0, (x31 : Int)⟩])))]) g365
        have z368 := g366.size
        refine zg Z (fa47_4 (b := ⟨b18, 7, none⟩) Z Z) (RL.st (vs := [(.slice A360 n361 c362)]) (cs' := [(J (x31 : Int)), (.slice Ao no co), (J (x55 : Int)), (J (x80 : Int)), (J (x104 : Int)), (J (x128 : Int)), (J (x152 : Int)), (.slice A360 n361 c362)]) Tryz.sizeOf45 (H367.ob (i := 4) Z) Z Z Z Z Z Z ?_)
        intro w369 hz370 g371 o372
        have H373 : Sp [At 133 2 A360 n361 c362 (Cp ((Dl (Af (x31 : Int)) (ros.map RObj.blk) [⟨0, (x31 : Int)⟩]))), ObjsA ros os, At 136 5 Ao no co (Cn ros), Ae b10 213 [.slice A1 n1 c1, .bool false], Ae b18 47 [(J (x31 : Int)), (.slice Ao no co), (J (x55 : Int)), (J (x80 : Int)), (J (x104 : Int)), (J (x128 : Int)), (J (x152 : Int)), (.slice A360 n361 c362)], Ae b2 47 zHeap, Bc w Bp] w369 := H367.setB (i := 4) rfl g371 o372 rfl
        have z374 := g371.size
        refine RL.nil (thn.n (CW.seq (CW.seq ?_)))
        rw [hmb] at H373
        have H375 : Sp [HpW (⟨(x31 : Int), ⟨Ao, no, co⟩, (x55 : Int), (x80 : Int), (x104 : Int), (x128 : Int), (x152 : Int), ⟨A360, n361, c362⟩⟩ : RHeap) ros (⟨(x31 : Int), os, (x55 : Int), (x80 : Int), (x104 : Int), (x128 : Int), (x152 : Int), (Dl (Af (x31 : Int)) (os.map Obj.blk) [⟨0, (x31 : Int)⟩])⟩ : Eng.Heap), Ae b10 213 [.slice A1 n1 c1, .bool false], Ae b18 47 [(J (x31 : Int)), (.slice Ao no co), (J (x55 : Int)), (J (x80 : Int)), (J (x104 : Int)), (J (x128 : Int)), (J (x152 : Int)), (.slice A360 n361 c362)], Ae b2 47 zHeap, Bc w Bp] w369 := (Sp.hpMk (rh := (⟨(x31 : Int), ⟨Ao, no, co⟩, (x55 : Int), (x80 : Int), (x104 : Int), (x128 : Int), (x152 : Int), ⟨A360, n361, c362⟩⟩ : RHeap)) (ros := ros) (hh := (⟨(x31 : Int), os, (x55 : Int), (x80 : Int), (x104 : Int), (x128 : Int), (x152 : Int), (Dl (Af (x31 : Int)) (os.map Obj.blk) [⟨0, (x31 : Int)⟩])⟩ : Eng.Heap)) (H373.sel [2, 1, 0, 3, 4, 5, 6] (by decide) rfl) ⟨rfl, rfl, rfl, by show no ≤ _; omega, by show n361 ≤ _; omega⟩)
        refine CW.region (zg Z (Ag Z (Ak (cs := [(J (x31 : Int)), (.slice Ao no co), (J (x55 : Int)), (J (x80 : Int)), (J (x104 : Int)), (J (x128 : Int)), (J (x152 : Int)), (.slice A360 n361 c362)]) wh47 (H375.ob (i := 2) Z).cl)) (RL.call Tryz.call167 (right05_ _ _ (⟨(x31 : Int), ⟨Ao, no, co⟩, (x55 : Int), (x80 : Int), (x104 : Int), (x128 : Int), (x152 : Int), ⟨A360, n361, c362⟩⟩ : RHeap) _ _ (H375.hpWR (i := 0) Z) (Nat.le_refl _) (by first | assumption | omega | (dsimp only; omega))) Z Z Z ?_))
        rintro _ w376 ⟨rfl, g377⟩
        have H378 := H375.grow g377
        have z379 := g377.size
        rcases hb380 : (Cz ((⟨(x31 : Int), os, (x55 : Int), (x80 : Int), (x104 : Int), (x128 : Int), (x152 : Int), (Dl (Af (x31 : Int)) (os.map Obj.blk) [⟨0, (x31 : Int)⟩])⟩ : Eng.Heap))) with _ | _
        ·skip
         refine zg Z (Ex.not (b := false) Z) (RL.nil (thn.n (Aa Z (CW.seq (CW.region (zg Z (Ce (cs := zHeap) bd47 Z) (RL.st (vs := zHeap) (cs' := zHeap) Tryz.sizeOf47 (H378.ob (i := 3) Z) Z Z Z Z Z Z ?_)))))))
         intro w381 hz382 g383 o384
         have H385 : Sp [HpW (⟨(x31 : Int), ⟨Ao, no, co⟩, (x55 : Int), (x80 : Int), (x104 : Int), (x128 : Int), (x152 : Int), ⟨A360, n361, c362⟩⟩ : RHeap) ros (⟨(x31 : Int), os, (x55 : Int), (x80 : Int), (x104 : Int), (x128 : Int), (x152 : Int), (Dl (Af (x31 : Int)) (os.map Obj.blk) [⟨0, (x31 : Int)⟩])⟩ : Eng.Heap), Ae b10 213 [.slice A1 n1 c1, .bool false], Ae b18 47 [(J (x31 : Int)), (.slice Ao no co), (J (x55 : Int)), (J (x80 : Int)), (J (x104 : Int)), (J (x128 : Int)), (J (x152 : Int)), (.slice A360 n361 c362)], Ae b2 47 zHeap, Bc w Bp] w381 := H378.setB (i := 3) rfl g383 o384 rfl
         have z386 := g383.size
         refine za (J 60) Z (RL.nil (thn.n (CW.ret (thn.r (finQ.r (v := (.tuple #[(.agg (zHeap).toArray), (J 60)])) (Dc Z (Rv.cell Z (Ak (cs := zHeap) wh47 (H385.ob (i := 3) Z).cl)) (Rv.tmp Z)) ?_)))))
         exact .inr ⟨rfl, (H385.fix (i := 4) rfl), by rw [hgh, if_neg (fun ⟨q1, q2, q3, q4, q5⟩ => by first | (cases q1; done) | (rw [q2] at hq1l; simp only [List.length_nil] at hq1l; omega) | (rw [hb380] at q3; cases q3) | (rw [hb380] at q5; cases q5) | omega)]⟩
        ·skip
         refine zg Z (Ex.not (b := true) Z) (RL.nil (thn.n (Ad Z (CW.skip (thn.n (CW.seq (CW.region (zg Z (Ag Z (Ak (cs := [(J (x31 : Int)), (.slice Ao no co), (J (x55 : Int)), (J (x80 : Int)), (J (x104 : Int)), (J (x128 : Int)), (J (x152 : Int)), (.slice A360 n361 c362)]) wh47 (H378.ob (i := 2) Z).cl)) (RL.st (vs := [(J (x31 : Int)), (.slice Ao no co), (J (x55 : Int)), (J (x80 : Int)), (J (x104 : Int)), (J (x128 : Int)), (J (x152 : Int)), (.slice A360 n361 c362)]) (cs' := [(J (x31 : Int)), (.slice Ao no co), (J (x55 : Int)), (J (x80 : Int)), (J (x104 : Int)), (J (x128 : Int)), (J (x152 : Int)), (.slice A360 n361 c362)]) Tryz.sizeOf47 (H378.ob (i := 3) Z) Z Z Z Z Z Z ?_)))))))))
         intro w387 hz388 g389 o390
         have H391 : Sp [HpW (⟨(x31 : Int), ⟨Ao, no, co⟩, (x55 : Int), (x80 : Int), (x104 : Int), (x128 : Int), (x152 : Int), ⟨A360, n361, c362⟩⟩ : RHeap) ros (⟨(x31 : Int), os, (x55 : Int), (x80 : Int), (x104 : Int), (x128 : Int), (x152 : Int), (Dl (Af (x31 : Int)) (os.map Obj.blk) [⟨0, (x31 : Int)⟩])⟩ : Eng.Heap), Ae b10 213 [.slice A1 n1 c1, .bool false], Ae b18 47 [(J (x31 : Int)), (.slice Ao no co), (J (x55 : Int)), (J (x80 : Int)), (J (x104 : Int)), (J (x128 : Int)), (J (x152 : Int)), (.slice A360 n361 c362)], Ae b2 47 [(J (x31 : Int)), (.slice Ao no co), (J (x55 : Int)), (J (x80 : Int)), (J (x104 : Int)), (J (x128 : Int)), (J (x152 : Int)), (.slice A360 n361 c362)], Bc w Bp] w387 := H378.setB (i := 3) rfl g389 o390 rfl
         have z392 := g389.size
         refine za (J 0) Z (RL.nil (thn.n (CW.ret (finQ.r (v := (.tuple #[(.agg ([(J (x31 : Int)), (.slice Ao no co), (J (x55 : Int)), (J (x80 : Int)), (J (x104 : Int)), (J (x128 : Int)), (J (x152 : Int)), (.slice A360 n361 c362)]).toArray), (J 0)])) (Dc Z (Rv.cell Z (Ak (cs := [(J (x31 : Int)), (.slice Ao no co), (J (x55 : Int)), (J (x80 : Int)), (J (x104 : Int)), (J (x128 : Int)), (J (x152 : Int)), (.slice A360 n361 c362)]) wh47 (H391.ob (i := 3) Z).cl)) (Rv.tmp Z)) ?_))))
         exact .inl ⟨(⟨(x31 : Int), ⟨Ao, no, co⟩, (x55 : Int), (x80 : Int), (x104 : Int), (x128 : Int), (x152 : Int), ⟨A360, n361, c362⟩⟩ : RHeap), ros, _, Z, (H391.sel [0, 4] (by decide) Z), by rw [hgh, if_pos ⟨Z, List.eq_nil_of_length_eq_zero (by omega), hb346, by omega, hb380⟩], hb380⟩
    ·skip
     refine zm bT Z (zo Z (zo Z (zo Z (zo Z (zo Z (zo Z (zT bT Z (zm bT Z (zo Z (zo Z ?_))))))))))
     refine zo Z (zo Z (zT bT Z (zm bT Z (zo Z (zo Z (zo Z (zo Z (zo Z (zT bT Z (RL.nil (thn.n (Aa Z (CW.seq (CW.region ?_))))))))))))))
     refine zg Z (Ce (cs := zHeap) bd47 Z) (RL.st (vs := zHeap) (cs' := zHeap) Tryz.sizeOf47 (H199.ob (i := 4) Z) Z Z Z Z Z Z ?_)
     intro w393 hz394 g395 o396
     have H397 : Sp [ObjsA ros os, At 136 5 Ao no co (Cn ros), Ae b10 213 [.slice A1 n1 c1, .bool true], Ae b18 47 [(J (x31 : Int)), (.slice Ao no co), (J (x55 : Int)), (J (x80 : Int)), (J (x104 : Int)), (J (x128 : Int)), (J (x152 : Int)), (.slice none 0 0)], Ae b2 47 zHeap, Bc w Bp] w393 := H199.setB (i := 4) rfl g395 o396 rfl
     have z398 := g395.size
     refine za (J 60) Z (RL.nil (thn.n (CW.ret (thn.r (finQ.r (v := (.tuple #[(.agg (zHeap).toArray), (J 60)])) (Dc Z (Rv.cell Z (Ak (cs := zHeap) wh47 (H397.ob (i := 4) Z).cl)) (Rv.tmp Z)) ?_)))))
     exact .inr ⟨rfl, (H397.fix (i := 5) rfl), by rw [hgh, if_neg (fun ⟨q1, q2, q3, q4, q5⟩ => by first | (cases q1; done) | (rw [q2] at hq1l; simp only [List.length_nil] at hq1l; omega) | omega)]⟩
end Go.Proofs.YtfokljnhllflbaaGreat
namespace Go.Eng
open Go Go.RowKit
theorem rows_app (l m : List Row) : rows (l ++ m) = rows l ++ rows m := by simp [rows]
def mayRow (x : Row) : Bool := Ay x.client 1 4 && Ay x.seq 1 1000000 && Ay x.code 0 65535
theorem mayRow_t {x : Row} (h : mayRow x = true) : (1 ≤ x.client ∧ x.client ≤ 4) ∧ (1 ≤ x.seq ∧ x.seq ≤ 1000000) ∧ (0 ≤ x.code ∧ x.code ≤ 65535) := by
  unfold mayRow at h
  simp only [Bool.and_eq_true] at h
  exact ⟨Bd h.1.1, Bd h.1.2, Bd h.2⟩
def rowOK (l : List Row) (i : Nat) (x : Row) : Prop := mayRow x = true ∧ ∀ y : Row, 0 < i → l[i - 1]? = some y → y.client < x.client
theorem rowsB_of {l : List Row} {n : Nat} (hn : l.length ≤ n) (h : ∀ (j : Nat) (x : Row), j < n → l[j]? = some x → rowOK l j x) : rowsB 0 l = true :=
  rows_right.2 fun i x hx => by
    obtain ⟨h1, h2⟩ := h i x (by have := lt_len hx; omega) hx
    have h3 := mayRow_t h1
    exact ⟨by omega, by omega, h3.2.1, h3.2.2, h2⟩
theorem rowsB_no {l : List Row} {i : Nat} {x : Row} (hx : l[i]? = some x) (h : ¬ rowOK l i x) : rowsB 0 l = false := by
  cases e : rowsB 0 l with
  | false => rfl
  | true =>
    exfalso
    obtain ⟨h1, h2, h3, h4, h5⟩ := rows_right.1 e i x hx
    refine h ⟨?_, h5⟩
    unfold mayRow Ay
    simp only [Bool.and_eq_true, decide_eq_true_eq]
    exact ⟨⟨⟨by omega, h2⟩, h3⟩, h4⟩
theorem stateB_no1 {s : State} (h : rowsB 0 s.rows = false) : Cx s = false := by unfold Cx; rw [h, Bool.and_false]
theorem stateB_rows {s : State} (h : rowsB 0 s.rows = true) : Cx s = Cz s.heap := by unfold Cx; rw [h, Bool.and_true]
def entOK (nm : Int) (l : List Entry) (i : Nat) (e : Entry) : Prop := mayE e = true ∧ e.view ≤ nm ∧ ∀ y : Entry, 0 < i → l[i - 1]? = some y → y.view ≤ e.view
theorem mayE_view {e : Entry} (h : mayE e = true) : 0 ≤ e.view := by
  unfold mayE at h
  simp only [Bool.and_eq_true] at h
  exact (Bd h.1.2).1
theorem entsB_iff {nm : Int} : ∀ {l : List Entry} {v : Int}, entsB nm v l = true ↔ ∀ (i : Nat) (e : Entry), l[i]? = some e → mayE e = true ∧ v ≤ e.view ∧ e.view ≤ nm ∧ ∀ y : Entry, 0 < i → l[i - 1]? = some y → y.view ≤ e.view
  | [], v => by simp [entsB]
  | r :: l, v => by
    unfold entsB
    simp only [Bool.and_eq_true]
    rw [entsB_iff (l := l)]
    constructor
    · rintro ⟨⟨h1, h2⟩, h7⟩ i x hx
      have h2 := Bd h2
      cases i with
      | zero => simp at hx; subst hx; exact ⟨h1, h2.1, h2.2, fun y hy => by omega⟩
      | succ i =>
        simp at hx
        obtain ⟨a1, a2, a3, a4⟩ := h7 i x hx
        refine ⟨a1, by omega, a3, fun y _ hy => ?_⟩
        cases i with
        | zero => simp at hy; subst hy; exact a2
        | succ i => simp at hy; exact a4 y (by omega) (by simpa using hy)
    · intro h
      obtain ⟨a1, a2, a3, _⟩ := h 0 r rfl
      refine ⟨⟨a1, by simp [Ay]; omega⟩, fun i x hx => ?_⟩
      obtain ⟨b1, b2, b3, b4⟩ := h (i + 1) x (by simpa using hx)
      have key : ∀ (i : Nat) (x : Entry), l[i]? = some x → r.view ≤ x.view := by
        intro i
        induction i with
        | zero => intro x hx; exact (h 1 x (by simpa using hx)).2.2.2 r (by omega) rfl
        | succ i ih =>
          intro x hx
          have hlt : i < l.length := by have := lt_len hx; omega
          have h1 := ih _ (List.getElem?_eq_getElem hlt)
          have h2 := (h (i + 2) x (by simpa using hx)).2.2.2 l[i] (by omega) (by show l[i]? = some _; exact List.getElem?_eq_getElem hlt)
          omega
      refine ⟨b1, key i x hx, b3, fun y hi hy => b4 y (by omega) ?_⟩
      cases i with
      | zero => omega
      | succ i => simpa using hy
theorem entsB_of {nm : Int} {l : List Entry} {n : Nat} (hn : l.length ≤ n) (h : ∀ (j : Nat) (x : Entry), j < n → l[j]? = some x → entOK nm l j x) : entsB nm 0 l = true :=
  entsB_iff.2 fun i x hx => by
    obtain ⟨h1, h2, h3⟩ := h i x (by have := lt_len hx; omega) hx
    exact ⟨h1, mayE_view h1, h2, h3⟩
theorem entsB_bad {nm : Int} {l : List Entry} {i : Nat} {x : Entry} (hx : l[i]? = some x) (h : ¬ entOK nm l i x) : entsB nm 0 l = false := by
  cases e : entsB nm 0 l with
  | false => rfl
  | true =>
    obtain ⟨h1, h2, h3, h4⟩ := entsB_iff.1 e i x hx
    exact absurd ⟨h1, h3, h4⟩ h
theorem keptB_no {k : Kept} (h : ¬ (0 ≤ k.view ∧ k.view ≤ 900000000 ∧ 0 ≤ k.normal ∧ k.normal ≤ k.view ∧ 0 ≤ k.base ∧ k.base ≤ 900000000 ∧ k.ents.length ≤ 4000 ∧ follB k.ents k.base = true ∧ entsB k.normal 0 k.ents = true ∧ (Dj k.image).isSome = true)) : Cj k = false := by
  cases e : Cj k with
  | false => rfl
  | true => exact absurd (keptB_t e) h
theorem keptB_yes {k : Kept} (h : 0 ≤ k.view ∧ k.view ≤ 900000000 ∧ 0 ≤ k.normal ∧ k.normal ≤ k.view ∧ 0 ≤ k.base ∧ k.base ≤ 900000000 ∧ k.ents.length ≤ 4000 ∧ follB k.ents k.base = true ∧ entsB k.normal 0 k.ents = true ∧ (Dj k.image).isSome = true) : Cj k = true := by
  obtain ⟨h1, h2, h3, h4, h5, h6, h7, h8, h9, h10⟩ := h
  unfold Cj
  rw [h8, h9, h10]
  simp only [Ay, Bool.and_true, Bool.and_eq_true, decide_eq_true_eq]
  exact ⟨⟨⟨⟨h1, h2⟩, ⟨h3, h4⟩⟩, ⟨h5, h6⟩⟩, h7⟩
end Go.Eng
namespace Go.Proofs.YtfokljnhllflbaaGreat
open Go Go.Eng Go.RowKit
set_option maxHeartbeats 400000 in
set_option maxRecDepth 20000 in
theorem mayRow_ (w : World) (x : Row) : Ret Tryz.prog 166 [(.agg (x.cells).toArray)] w (fun v w' => v = .bool (mayRow x) ∧ w.grownBy w' none) := by
  have H0 : Sp [Bc w Bp] w := Bl w
  refine Ret.body Tryz.func166 Z Z Z ?_
  refine CW.seq (CW.region (RL.bx (cs := x.cells) Z Z Z ?_))
  intro w1 b2 hb3 hz4 g5 o6
  have H7 := H0.newB g5 o6 (by omega)
  have z8 := g5.size
  refine za bF Z (RL.nil (thn.n (CW.seq (CW.region (zg Z (Dh (b := ⟨b2, 0, none⟩) Z Z) (zl (J x.client) Bw (H7.ob (i := 0) Z) Z (RL.call Tryz.call221 (within_tumulusref06 _ x.client 1 4) Z Z Z ?_)))))))
  rintro _ _ ⟨rfl, rfl⟩
  rcases hb12 : (Ay x.client 1 4) with _ | _
  ·skip
   refine zm bF Z (zo Z (zo Z (zo Z (zF bF Z (zm bF Z (zo Z (zo Z (zo Z (zo Z (zF bF Z ?_))))))))))
   refine za bF Z (RL.nil (thn.n (CW.ret (finQ.r (v := bF) (Ax Z Z) ?_))))
   exact ⟨An (by unfold mayRow; simp [hb12]), (H7.fix (i := 1) Z)⟩
  ·have hw9 := Bd hb12
   refine zm bT Z (zg Z (fa123_1 (b := ⟨b2, 1, none⟩) Z Z) (zl (J x.seq) Bw (H7.ob (i := 0) Z) Z (RL.call Tryz.call221 (within_tumulusref06 _ x.seq 1 1000000) Z Z Z ?_)))
   rintro _ _ ⟨rfl, rfl⟩
   rcases hb16 : (Ay x.seq 1 1000000) with _ | _
   ·skip
    refine zT bF Z (zm bF Z (zo Z (zo Z (zo Z (zo Z (zF bF Z (za bF Z (RL.nil (thn.n (CW.ret (finQ.r (v := bF) (Ax Z Z) ?_)))))))))))
    exact ⟨An (by unfold mayRow; simp [hb12, hb16]), (H7.fix (i := 1) Z)⟩
   ·have hw13 := Bd hb16
    refine zT bT Z (zm bT Z (zg Z (fa123_2 (b := ⟨b2, 2, none⟩) Z Z) (zg Z (fa55_0 (b := ⟨b2, 2, none⟩) Z Z) (zl (J x.code) lo53 (H7.ob (i := 0) Z) Z (RL.call Tryz.call221 (within_tumulusref06 _ x.code 0 65535) Z Z Z ?_)))))
    rintro _ _ ⟨rfl, rfl⟩
    rcases hb20 : (Ay x.code 0 65535) with _ | _
    ·skip
     refine zT bF Z (za bF Z (RL.nil (thn.n (CW.ret (finQ.r (v := bF) (Ax Z Z) ?_)))))
     exact ⟨An (by unfold mayRow; simp [hb12, hb16, hb20]), (H7.fix (i := 1) Z)⟩
    ·have hw17 := Bd hb20
     refine zT bT Z (za bT Z (RL.nil (thn.n (CW.ret (finQ.r (v := bT) (Ax Z Z) ?_)))))
     exact ⟨An (by unfold mayRow; simp [hb12, hb16, hb20]), (H7.fix (i := 1) Z)⟩
set_option maxHeartbeats 1000000 in
set_option maxRecDepth 20000 in
theorem rightS_ (w : World) (B : Nat) (rs : RState) (ros : List RObj) (s : State) (H : StateR w B rs ros s) (hB : B ≤ w.heap.size) (hxr : s.heap.next ≤ 9223372036854775807) : Ret Tryz.prog 104 [(.agg (rs.cells).toArray)] w (fun v w' => v = .bool (Cx s) ∧ w.grownBy w' none) := by
  have hrn := H.rn
  have hrm := H.rm
  have H0 : Sp [Bc w Bp] w := Bl w
  refine Ret.body Tryz.func104 Z Z Z ?_
  refine CW.seq (CW.region (RL.bx (cs := rs.cells) Z Z Z ?_))
  intro w1 b2 hb3 hz4 g5 o6
  have H7 := H0.newB g5 o6 (by omega)
  have z8 := g5.size
  refine za bF Z (RL.nil (thn.n (CW.seq (CW.seq (CW.region (za (J 0) Z (RL.nil (thn.n (CW.block ?_)))))))))
  refine CW.loop (fun t => (Nat.ble 2 t && Nat.ble t 37)) (fun nL ρ wl => ∃ (i : Nat), ρ 3 = (J (i : Int)) ∧ nL = rs.rows.n - i ∧ Sp [Ae b2 50 rs.cells, Bc w Bp] wl ∧ i ≤ rs.rows.n ∧ ∀ (j : Nat) (x : Row), j < i → s.rows[j]? = some x → rowOK s.rows j x) (rs.rows.n) ?aa0 ?bb0
  case aa0 =>
   exact ⟨0, Z, Z, H7, Nat.zero_le _, fun j x hj => by omega⟩
  case bb0 =>
   rintro n10 ρ0 w9 ho11 ⟨i, hs0_3, hn0, H12, hi, hO⟩
   obtain ⟨j0, rfl⟩ := ho11.shape1 hs0_3
   clear ho11 hs0_3
   subst hn0
   have z13 := (H12.fix (i := 1) rfl).size
   refine CW.seq (CW.seq (CW.region (zm (J (i : Int)) Z (zg Z (fa50_1 (b := ⟨b2, 8, none⟩) Z Z) (zl (.slice rs.rows.a rs.rows.n rs.rows.c) lo48 (H12.ob (i := 0) Z) Z (zg Z (Ex.len Tryz.underlying48 Z) ?_))))))
   refine zc (((i : Int) : Int) < ((rs.rows.n : Nat) : Int)) Z (fun r hr => Ex.lt Z Z hr) (fun h14 => ?_) (fun h14 => ?_)
   ·skip
    refine RL.nil (thn.n (Aa Z (CW.skip (thn.n (CW.seq (CW.block (CW.seq (Di (fun wq => Sp [Ae b2 50 rs.cells, Bc w Bp] wq) Tryz.mixed Z ?_))))))))
    intro w15 g16
    have H17 := H12.grow g16
    have z18 := g16.size
    refine zr 0 1 Z (by kernel_rfl) H17 (fun wq hq => fa50_1 (b := ⟨b2, 8, none⟩) Z Z) (zr 2 5 Z (by kernel_rfl) H17 (fun wq hq => As (v := (J (i : Int))) Z) (zr 1 7 Z (by kernel_rfl) H17 (fun wq hq => Ag Z (Av lo48 (Ob.cell (v := (.slice rs.rows.a rs.rows.n rs.rows.c)) (hq.ob (i := 0) Z) Z))) ?_))
    obtain ⟨e19, he20⟩ : ∃ e, (s.rows)[i]? = some e := ⟨_, List.getElem?_eq_getElem (by omega)⟩
    obtain ⟨ad21, hA22⟩ := Rd.sm (H.rr.st0 (H17.fix (i := 1) rfl)) (rows_get he20)
    have hl23 := Eng.lt_len (rows_get he20)
    refine zr 3 15 Z (by kernel_rfl) H17 (fun wq hq => Ck (b := (ad21.add (i * 4))) (i := i) Tryz.underlying48 Tryz.sizeOf123 (by rw [← hA22]; rfl) Z (by omega) (by omega) Z) (zr 4 31 Z (by kernel_rfl) H17 (fun wq hq => Ag Z (Ak (cs := e19.cells) wh123 (Rd.cl (H.rr.st0 (hq.fix (i := 1) Z)) hA22 (rows_get he20)))) (RA.one (i := 5) (by kernel_rfl) ?_))
    refine ⟨_, 63, Z, by kernel_rfl, ?_⟩
    refine RL.call Tryz.call166 (mayRow_ _ e19) Z Z Z ?_
    rintro _ w24 ⟨rfl, g25⟩
    have H26 := H17.grow g25
    have z27 := g25.size
    rcases hb28 : (mayRow e19) with _ | _
    ·skip
     refine RL.nil ?_
     refine ⟨H26, ?_⟩
     refine zr 6 127 Z (by kernel_rfl) H26 (fun wq hq => Ex.not (b := false) Z) (zr 7 255 Z (by kernel_rfl) H26 (fun wq hq => As (v := bT) Z) (zq 8 511 Z (by kernel_rfl) H26 (zq 9 1023 Z (by kernel_rfl) H26 (zq 10 2047 Z (by kernel_rfl) H26 (zq 11 4095 Z (by kernel_rfl) H26 (zq 13 12287 Z (by kernel_rfl) H26 (zq 14 28671 Z (by kernel_rfl) H26 (zq 18 290815 Z (by kernel_rfl) H26 (zq 20 1339391 Z (by kernel_rfl) H26 (zq 12 1343487 Z (by kernel_rfl) H26 ?_))))))))))
     refine zq 15 1376255 Z (by kernel_rfl) H26 (zq 16 1441791 Z (by kernel_rfl) H26 (zq 17 1572863 Z (by kernel_rfl) H26 (zq 19 2097151 Z (by kernel_rfl) H26 (zq 21 4194303 Z (by kernel_rfl) H26 (zq 22 8388607 Z (by kernel_rfl) H26 (zq 23 16777215 Z (by kernel_rfl) H26 (zq 24 33554431 Z (by kernel_rfl) H26 (zq 25 67108863 Z (by kernel_rfl) H26 (zr 26 134217727 Z (by kernel_rfl) H26 (fun wq hq => Bs (v := bT) Z Z) (Bi (by kernel_rfl) ?_))))))))))
     refine thn.n (Aa Z (CW.seq (CW.region (za bF Z (RL.nil (thn.n (CW.ret (inB.r (thn.r (thn.r (inB.r (thn.r (finQ.r (v := bF) (Ax Z Z) ?_)))))))))))))
     exact ⟨An (stateB_no1 (rowsB_no he20 (fun ⟨q1, q2⟩ => by first | (rw [hb28] at q1; cases q1; done)))).symm, (H26.fix (i := 1) rfl)⟩
    ·skip
     refine RL.nil ?_
     refine ⟨H26, ?_⟩
     refine zr 6 127 Z (by kernel_rfl) H26 (fun wq hq => Ex.not (b := true) Z) (zr 7 255 Z (by kernel_rfl) H26 (fun wq hq => As (v := bF) Z) (zr 8 511 Z (by kernel_rfl) H26 (fun wq hq => As (v := (J (i : Int))) Z) ?_))
     refine zb 9 1023 ((0 : Int) < ((i : Int) : Int)) Z (by kernel_rfl) H26 (fun r hr wq hq => Cv Z Z hr) (fun h29 => ?_) (fun h29 => ?_)
     ·skip
      refine zr 10 2047 Z (by kernel_rfl) H26 (fun wq hq => As (v := bT) Z) (zr 11 4095 Z (by kernel_rfl) H26 (fun wq hq => fa50_1 (b := ⟨b2, 8, none⟩) Z Z) (zr 13 12287 Z (by kernel_rfl) H26 (fun wq hq => As (v := (J (i : Int))) Z) (zr 14 28671 Z (by kernel_rfl) H26 (fun wq hq => Ci (r := ((i - 1 : Nat) : Int)) Z Z (by rw [Dd (by omega) (by omega)]; omega)) (zr 18 290815 Z (by kernel_rfl) H26 (fun wq hq => fa50_1 (b := ⟨b2, 8, none⟩) Z Z) (zr 20 1339391 Z (by kernel_rfl) H26 (fun wq hq => As (v := (J (i : Int))) Z) (zr 12 1343487 Z (by kernel_rfl) H26 (fun wq hq => Ag Z (Av lo48 (Ob.cell (v := (.slice rs.rows.a rs.rows.n rs.rows.c)) (hq.ob (i := 0) Z) Z))) ?_))))))
      obtain ⟨e30, he31⟩ : ∃ e, (s.rows)[(i - 1)]? = some e := ⟨_, List.getElem?_eq_getElem (by omega)⟩
      obtain ⟨ad32, hA33⟩ := Rd.sm (H.rr.st0 (H26.fix (i := 1) rfl)) (rows_get he31)
      have hl34 := Eng.lt_len (rows_get he31)
      refine zr 15 1376255 Z (by kernel_rfl) H26 (fun wq hq => Ck (b := (ad32.add ((i - 1) * 4))) (i := (i - 1)) Tryz.underlying48 Tryz.sizeOf123 (by rw [← hA33]; rfl) Z (by omega) (by omega) Z) (zr 16 1441791 Z (by kernel_rfl) H26 (fun wq hq => Dh (b := ((ad32.add ((i - 1) * 4)))) Z Z) (zr 17 1572863 Z (by kernel_rfl) H26 (fun wq hq => Ag Z (Av Bw (Cl.at_ (v := (J e30.client)) (Rd.cl (H.rr.st0 (hq.fix (i := 1) Z)) hA33 (rows_get he31)) (i := 0) Z))) (zr 19 2097151 Z (by kernel_rfl) H26 (fun wq hq => Ag Z (Av lo48 (Ob.cell (v := (.slice rs.rows.a rs.rows.n rs.rows.c)) (hq.ob (i := 0) Z) Z))) ?_)))
      obtain ⟨ad35, hA36⟩ := Rd.sm (H.rr.st0 (H26.fix (i := 1) rfl)) (rows_get he20)
      have hl37 := Eng.lt_len (rows_get he20)
      refine zr 21 4194303 Z (by kernel_rfl) H26 (fun wq hq => Ck (b := (ad35.add (i * 4))) (i := i) Tryz.underlying48 Tryz.sizeOf123 (by rw [← hA36]; rfl) Z (by omega) (by omega) Z) (zr 22 8388607 Z (by kernel_rfl) H26 (fun wq hq => Dh (b := ((ad35.add (i * 4)))) Z Z) (zr 23 16777215 Z (by kernel_rfl) H26 (fun wq hq => Ag Z (Av Bw (Cl.at_ (v := (J e19.client)) (Rd.cl (H.rr.st0 (hq.fix (i := 1) Z)) hA36 (rows_get he20)) (i := 0) Z))) ?_))
      refine zb 24 33554431 ((e19.client : Int) ≤ (e30.client : Int)) Z (by kernel_rfl) H26 (fun r hr wq hq => Dp Z Z hr) (fun h38 => ?_) (fun h38 => ?_)
      ·skip
       refine zr 25 67108863 Z (by kernel_rfl) H26 (fun wq hq => Bs (v := bT) Z Z) (zr 26 134217727 Z (by kernel_rfl) H26 (fun wq hq => Bo (v := bT) Z Z) (Bi (by kernel_rfl) (thn.n (Aa Z (CW.seq (CW.region (za bF Z (RL.nil (thn.n (CW.ret (inB.r (thn.r (thn.r (inB.r (thn.r (finQ.r (v := bF) (Ax Z Z) ?_))))))))))))))))
       exact ⟨An (stateB_no1 (rowsB_no he20 (fun ⟨q1, q2⟩ => by first | (rw [hb28] at q1; cases q1; done) | (have q3 := q2 e30 (by omega) he31; omega)))).symm, (H26.fix (i := 1) rfl)⟩
      ·skip
       refine zr 25 67108863 Z (by kernel_rfl) H26 (fun wq hq => Bs (v := bF) Z Z) (zr 26 134217727 Z (by kernel_rfl) H26 (fun wq hq => Bo (v := bF) Z Z) (Bi (by kernel_rfl) (thn.n (Ad Z (CW.skip (inB.n (thn.n (CW.region (zm (J (i : Int)) Z (zg Z (Ex.add (r := (i : Int) + 1) Z Z (Dd (by omega) (by omega))) (za (J ((i : Int) + 1)) Z (RL.nil (thn.n ?_)))))))))))))
       refine ⟨(by repeat (first | exact Out.mix _ _ | exact Out.refl _ _ | refine Bf ?_ rfl _ | refine Ch ?_ (by intro t ht; simp only [Bool.or_eq_false_iff, Bool.and_eq_false_iff, ble_f, beq_f] at ht ⊢; omega))), _, ?_, i + 1, rfl, rfl, H26, by omega, upto_go hO he20 ⟨hb28, (fun y _ hy => by rw [he31] at hy; injection hy with hy; subst hy; omega)⟩⟩
       omega
     ·skip
      refine zr 10 2047 Z (by kernel_rfl) H26 (fun wq hq => As (v := bF) Z) (zq 11 4095 Z (by kernel_rfl) H26 (zq 13 12287 Z (by kernel_rfl) H26 (zq 14 28671 Z (by kernel_rfl) H26 (zq 18 290815 Z (by kernel_rfl) H26 (zq 20 1339391 Z (by kernel_rfl) H26 (zq 12 1343487 Z (by kernel_rfl) H26 (zq 15 1376255 Z (by kernel_rfl) H26 (zq 16 1441791 Z (by kernel_rfl) H26 (zq 17 1572863 Z (by kernel_rfl) H26 (zq 19 2097151 Z (by kernel_rfl) H26 ?_))))))))))
      refine zq 21 4194303 Z (by kernel_rfl) H26 (zq 22 8388607 Z (by kernel_rfl) H26 (zq 23 16777215 Z (by kernel_rfl) H26 (zq 24 33554431 Z (by kernel_rfl) H26 (zr 25 67108863 Z (by kernel_rfl) H26 (fun wq hq => Bo (v := bF) Z Z) (zr 26 134217727 Z (by kernel_rfl) H26 (fun wq hq => Bo (v := bF) Z Z) (Bi (by kernel_rfl) (thn.n (Ad Z (CW.skip (inB.n (thn.n (CW.region (zm (J (i : Int)) Z (zg Z (Ex.add (r := (i : Int) + 1) Z Z (Dd (by omega) (by omega))) ?_))))))))))))))
      refine za (J ((i : Int) + 1)) Z (RL.nil (thn.n ?_))
      refine ⟨(by repeat (first | exact Out.mix _ _ | exact Out.refl _ _ | refine Bf ?_ Z _ | refine Ch ?_ (by intro t ht; simp only [Bool.or_eq_false_iff, Bool.and_eq_false_iff, ble_f, beq_f] at ht ⊢; omega))), _, ?_, i + 1, Z, Z, H26, by omega, upto_go hO he20 ⟨hb28, (fun y hi0 hy => by omega)⟩⟩
      omega
   ·skip
    refine RL.nil (thn.n (Ad Z (CW.exit (thn.x (thn.x (Bh (thn.n (CW.seq (CW.region (zg Z (fa50_0 (b := ⟨b2, 0, none⟩) Z Z) (zg Z (Ag Z (Ak (cs := [(J rs.heap.order), (.slice rs.heap.objs.a rs.heap.objs.n rs.heap.objs.c), (J rs.heap.next), (J rs.heap.t0), (J rs.heap.t1), (J rs.heap.t2), (J rs.heap.t3), (.slice rs.heap.free.a rs.heap.free.n rs.heap.free.c)]) wh47 ((H12.ob (i := 0) Z).sub 0 8))) (RL.call Tryz.call167 (right05_ _ _ rs.heap _ _ (H.heap.st0 (H12.fix (i := 1) Z)) (by omega) (by first | assumption | omega | (dsimp only; omega))) Z Z Z ?_))))))))))))
    rintro _ w39 ⟨rfl, g40⟩
    have H41 := H12.grow g40
    have z42 := g40.size
    rcases hb43 : (Cz s.heap) with _ | _
    ·skip
     refine za bF Z (RL.nil (thn.n (CW.ret (finQ.r (v := bF) (Ax Z Z) ?_))))
     have hrw := rowsB_of (n := i) (by omega) hO
     exact ⟨An (by rw [stateB_rows hrw, hb43]), (H41.fix (i := 1) Z)⟩
    ·skip
     refine za bT Z (RL.nil (thn.n (CW.ret (finQ.r (v := bT) (Ax Z Z) ?_))))
     have hrw := rowsB_of (n := i) (by omega) hO
     exact ⟨An (by rw [stateB_rows hrw, hb43]), (H41.fix (i := 1) Z)⟩
set_option maxHeartbeats 4000000 in
set_option maxRecDepth 20000 in
theorem getStateR_ (w : World) (B : Nat) (bs : List UInt8) (A : Option Addr) (n c : Nat) (hr : RB w B A n c bs) (hB : B ≤ w.heap.size) : Ret Tryz.prog 127 [(.slice A n c)] w (fun v w' => (∃ (rs : RState) (ros : List RObj) (ss : Eng.State), v = .tuple #[.agg rs.cells.toArray, .int .i64 0] ∧ Sp ([StW rs ros ss] ++ [Bc w Bp]) w' ∧ Dj bs = some ss ∧ Cx ss = true) ∨ (v = .tuple #[.agg zState.toArray, .int .i64 60] ∧ w.grownBy w' none ∧ Dj bs = none)) := by
  obtain ⟨hrd, hrn, hrc, hrm⟩ := hr
  have hr : RB w B A n c bs := ⟨hrd, hrn, hrc, hrm⟩
  have H0 : Sp [Bc w Bp] w := Bl w
  refine Ret.body Tryz.func127 Z Z Z ?_
  refine CW.seq (CW.region (RL.al (cs := zState) Tryz.zeroValue50 Z Z Z ?_))
  intro w1 b2 hb3 hz4 g5 o6
  have H7 := H0.newB g5 o6 (by omega)
  have z8 := g5.size
  refine za (J 0) Z (RL.nil (thn.n (CW.seq (CW.region (zm (.slice A n c) Z (RL.call Tryz.call185 (rdTxt_ _ _ bs A n c (hr.1.st0 (H7.fix (i := 1) Z)) hr.2.1 hr.2.2.1 hr.2.2.2) Z Z Z ?_))))))
  rintro _ w17 (⟨t9, k10, rfl, g18, hrt12, hkl13, htl14⟩ | ⟨e11, rfl, g19, hrt15, hne16⟩)
  ·skip
   have H20 := H7.grow g18
   have z21 := g18.size
   refine zm (.tuple #[(.string (tx t9)), (J (k10 : Int)), (J 0)]) Z (zx (.string (tx t9)) Z (zx (J (k10 : Int)) Z (zx (J 0) Z (za (.string (tx t9)) Z (za (J (k10 : Int)) Z (za (J 0) Z (RL.nil (thn.n (CW.seq (CW.region (zm (.string (tx t9)) Z (RL.s2bT (l := t9) Tryz.underlying9 Tryz.underlying97 Tryz.underlying5 Z Z Z ?_))))))))))))
   intro w22 b23 c24 hb25 hz26 g27 rd28 hc29
   have H30 := H20.grow g27
   have z31 := g27.size
   refine RL.call Tryz.call186 (getHeapR_ _ _ t9 (some ⟨b23, 0, none⟩) t9.length c24 ⟨rd28, by first | rfl | omega, by omega, by first | omega | (simp only [List.length_nil]; omega)⟩ (by omega)) Z Z Z ?_
   rintro _ w38 (⟨rh32, ros33, hh34, rfl, g39, hgh35, hhb37⟩ | ⟨rfl, g40, hgh36⟩)
   ·skip
    have g41 := g39.fix (i := 1) rfl
    have H42 : Sp [HpW rh32 ros33 hh34, Ae b2 50 zState, Bc w Bp] w38 := H30.join (m := [HpW rh32 ros33 hh34]) g39
    have z43 := g41.size
    refine zm (.tuple #[(.agg (rh32.cells).toArray), (J 0)]) Z (zx (.agg (rh32.cells).toArray) Z (zx (J 0) Z (RL.al (cs := zHeap) Tryz.zeroValue47 Z Z Z ?_)))
    intro w44 b45 hb46 hz47 g48 o49
    have H50 := H42.newB g48 o49 (by omega)
    have z51 := g48.size
    refine RL.st (vs := rh32.cells) (cs' := rh32.cells) Tryz.sizeOf47 (H50.ob (i := 0) Z) Z Z Z Z Z Z ?_
    intro w52 hz53 g54 o55
    have H56 : Sp [Ae b45 47 rh32.cells, HpW rh32 ros33 hh34, Ae b2 50 zState, Bc w Bp] w52 := H50.setB (i := 0) rfl g54 o55 rfl
    have z57 := g54.size
    refine za (J 0) Z (RL.nil (thn.n (CW.seq (CW.seq (CW.region (zm (J 0) Z (zg Z (Cd (r := false) Z Z (by decide)) (zm bF Z (zm (J 0) Z (zg Z (Cd (r := false) Z Z (by decide)) (zF bF Z (RL.nil (thn.n (Ad Z (CW.skip (thn.n (CW.seq (CW.region (zm (.slice A n c) Z (zm (J (k10 : Int)) Z ?_))))))))))))))))))))
    have hqk := hr.drop (k := k10) (by omega)
    refine zg Z (Ex.slLo (i := k10) Tryz.underlying97 Tryz.sizeOf5 Z Z (by omega) (by omega) Z) (zg Z (Ce (cs := [(.slice (dropA A c k10 1) (n - k10) (c - k10)), bF]) bd213 Z) (RL.bx (cs := [(.slice (dropA A c k10 1) (n - k10) (c - k10)), bF]) Z Z Z ?_))
    intro w58 b59 hb60 hz61 g62 o63
    have H65 := H56.newB g62 o63 (by omega)
    have z66 := g62.size
    refine za (.pointer (some ⟨b59, 0, none⟩)) Z (RL.nil (thn.n (CW.seq (CW.region (zg Z (Ag Z (Ak (cs := rh32.cells) wh47 (H65.ob (i := 1) Z).cl)) (zg Z (Ce (cs := [(J rh32.order), (.slice rh32.objs.a rh32.objs.n rh32.objs.c), (J rh32.next), (J rh32.t0), (J rh32.t1), (J rh32.t2), (J rh32.t3), (.slice rh32.free.a rh32.free.n rh32.free.c), (.slice none 0 0)]) bd50 Z) (RL.al (cs := zState) Tryz.zeroValue50 Z Z Z ?_)))))))
    intro w67 b68 hb69 hz70 g71 o72
    have H73 := H65.newB g71 o72 (by omega)
    have z74 := g71.size
    refine RL.st (vs := [(J rh32.order), (.slice rh32.objs.a rh32.objs.n rh32.objs.c), (J rh32.next), (J rh32.t0), (J rh32.t1), (J rh32.t2), (J rh32.t3), (.slice rh32.free.a rh32.free.n rh32.free.c), (.slice none 0 0)]) (cs' := [(J rh32.order), (.slice rh32.objs.a rh32.objs.n rh32.objs.c), (J rh32.next), (J rh32.t0), (J rh32.t1), (J rh32.t2), (J rh32.t3), (.slice rh32.free.a rh32.free.n rh32.free.c), (.slice none 0 0)]) Tryz.sizeOf50 (H73.ob (i := 0) Z) Z Z Z Z Z Z ?_
    intro w75 hz76 g77 o78
    have H79 : Sp [Ae b68 50 [(J rh32.order), (.slice rh32.objs.a rh32.objs.n rh32.objs.c), (J rh32.next), (J rh32.t0), (J rh32.t1), (J rh32.t2), (J rh32.t3), (.slice rh32.free.a rh32.free.n rh32.free.c), (.slice none 0 0)], Ae b59 213 [(.slice (dropA A c k10 1) (n - k10) (c - k10)), bF], Ae b45 47 rh32.cells, HpW rh32 ros33 hh34, Ae b2 50 zState, Bc w Bp] w75 := H73.setB (i := 0) rfl g77 o78 rfl
    have z80 := g77.size
    refine RL.nil (thn.n (CW.seq (CW.region (zm (.pointer (some ⟨b59, 0, none⟩)) Z ?_))))
    obtain ⟨S91, hS92, hO93, K94⟩ := Sp.takeL (l1 := [Ae b59 213 [(.slice (dropA A c k10 1) (n - k10) (c - k10)), bF]]) (l2 := [Ae b68 50 [(J rh32.order), (.slice rh32.objs.a rh32.objs.n rh32.objs.c), (J rh32.next), (J rh32.t0), (J rh32.t1), (J rh32.t2), (J rh32.t3), (.slice rh32.free.a rh32.free.n rh32.free.c), (.slice none 0 0)], Ae b45 47 rh32.cells, HpW rh32 ros33 hh34, Ae b2 50 zState, Bc w Bp]) (w := w75) (H79.sel [1, 0, 2, 3, 4, 5] (by decide) rfl)
    refine RL.call Tryz.call187 (rnum_ _ S91 b59 (dropA A c k10 1) (n - k10) (c - k10) (bs.drop k10) false hS92 ⟨(Dg hO93 (j := 4) Z hqk.1 (by omega)), hqk.2⟩) Z Z Z ?_
    rintro _ w95 ⟨x81, A82, n83, c84, bs85, bq86, rfl, g96, hnum87, hind88, hxle89⟩
    have H97 : Sp [Ae b59 213 [.slice A82 n83 c84, .bool bq86], Ae b68 50 [(J rh32.order), (.slice rh32.objs.a rh32.objs.n rh32.objs.c), (J rh32.next), (J rh32.t0), (J rh32.t1), (J rh32.t2), (J rh32.t3), (.slice rh32.free.a rh32.free.n rh32.free.c), (.slice none 0 0)], Ae b45 47 rh32.cells, HpW rh32 ros33 hh34, Ae b2 50 zState, Bc w Bp] w95 := K94 _ _ g96
    have z98 := (H97.fix (i := 5) rfl).size
    have hq90 := hind88.r _ _ hqk
    refine za (J (x81 : Int)) Z (RL.nil (thn.n (CW.seq (CW.seq (CW.region (za (J 0) Z (RL.nil (thn.n (CW.block ?_)))))))))
    have H99 := H97.nil_ 123 4
    obtain ⟨_, ⟨_, hnxb⟩, _⟩ := heapB_rng hhb37
    refine CW.loop (fun t => (Nat.ble 12 t && Nat.ble t 14) || (Nat.ble 43 t && Nat.ble t 80)) (fun nL ρ wl => ∃ (k n1 c1 no co : Nat) (A1 Ao : Option Addr) (l : List Row) (bs1 : List UInt8) (b1 : Bool), ρ 12 = (J (k : Int)) ∧ nL = 5 - k ∧ Sp [At 123 4 Ao no co (rows l), Ae b59 213 [.slice A1 n1 c1, .bool b1], Ae b68 50 [(J rh32.order), (.slice rh32.objs.a rh32.objs.n rh32.objs.c), (J rh32.next), (J rh32.t0), (J rh32.t1), (J rh32.t2), (J rh32.t3), (.slice rh32.free.a rh32.free.n rh32.free.c), (.slice Ao no co)], HpW rh32 ros33 hh34, Ae b2 50 zState, Bc w Bp] wl ∧ k ≤ x81 ∧ k ≤ 5 ∧ manyF rowF k (bs85, bq86) = (l, (bs1, b1)) ∧ no = k ∧ InD A82 n83 c84 bs85 A1 n1 c1 bs1) (5) ?aa0 ?bb0
    case aa0 =>
     exact ⟨0, n83, c84, 0, 0, A82, none, [], bs85, bq86, Z, Z, (H99.sel [0, 1, 2, 4, 5, 6] (by decide) Z), Nat.zero_le _, by omega, Z, Z, InD.refl _ _ _ _⟩
    case bb0 =>
     rintro n101 ρ0 w100 ho102 ⟨k, n1, c1, no, co, A1, Ao, l, bs1, b1, hs0_12, hn0, H103, hk1, hk2, hmy, hno, hin1⟩
     obtain ⟨j0, rfl⟩ := ho102.shape1 hs0_12
     clear ho102 hs0_12
     subst hn0
     have z104 := (H103.fix (i := 5) rfl).size
     have hq1 := hin1.r _ _ hq90
     refine CW.seq (CW.seq (CW.region (zm (J (k : Int)) Z (zm (J (x81 : Int)) Z ?_))))
     refine zc (((k : Int) : Int) < ((x81 : Int) : Int)) Z (fun r hr => Ex.lt Z Z hr) (fun h105 => ?_) (fun h105 => ?_)
     ·skip
      refine zm bT Z (zm (J (k : Int)) Z ?_)
      refine zc (((k : Int) : Int) ≤ (4 : Int)) Z (fun r hr => Ex.le Z Z hr) (fun h106 => ?_) (fun h106 => ?_)
      ·skip
       refine zT bT Z (zm bT Z (zm (.pointer (some ⟨b59, 0, none⟩)) Z (zg Z (Bj Z) (zg Z (fa213_1 (b := ⟨b59, 1, none⟩) Z Z) (zl (.bool b1) lo4 (H103.ob (i := 1) Z) Z ?_)))))
       rcases b1 with _ | _
       ·skip
        refine zg Z (Ex.not (b := false) Z) (zT bT Z (RL.nil (thn.n (Aa Z (CW.skip (thn.n (CW.seq (CW.block (CW.seq (CW.region (zg Z (Ce (cs := [(J 0), (J 0), (J 0), (J 0)]) bd123 Z) (RL.al (cs := [(J 0), (J 0), (J 0), (J 0)]) Tryz.zeroValue123 Z Z Z ?_))))))))))))
        intro w107 b108 hb109 hz110 g111 o112
        have H113 := H103.newB g111 o112 (by omega)
        have z114 := g111.size
        refine RL.st (vs := [(J 0), (J 0), (J 0), (J 0)]) (cs' := [(J 0), (J 0), (J 0), (J 0)]) Tryz.sizeOf123 (H113.ob (i := 0) Z) Z Z Z Z Z Z ?_
        intro w115 hz116 g117 o118
        have H119 : Sp [Ae b108 123 [(J 0), (J 0), (J 0), (J 0)], At 123 4 Ao no co (rows l), Ae b59 213 [.slice A1 n1 c1, .bool false], Ae b68 50 [(J rh32.order), (.slice rh32.objs.a rh32.objs.n rh32.objs.c), (J rh32.next), (J rh32.t0), (J rh32.t1), (J rh32.t2), (J rh32.t3), (.slice rh32.free.a rh32.free.n rh32.free.c), (.slice Ao no co)], HpW rh32 ros33 hh34, Ae b2 50 zState, Bc w Bp] w115 := H113.setB (i := 0) rfl g117 o118 rfl
        have z120 := g117.size
        refine RL.nil (thn.n (CW.seq (CW.region (zm (.pointer (some ⟨b59, 0, none⟩)) Z ?_))))
        obtain ⟨S131, hS132, hO133, K134⟩ := Sp.takeL (l1 := [Ae b59 213 [.slice A1 n1 c1, .bool false]]) (l2 := [Ae b108 123 [(J 0), (J 0), (J 0), (J 0)], At 123 4 Ao no co (rows l), Ae b68 50 [(J rh32.order), (.slice rh32.objs.a rh32.objs.n rh32.objs.c), (J rh32.next), (J rh32.t0), (J rh32.t1), (J rh32.t2), (J rh32.t3), (.slice rh32.free.a rh32.free.n rh32.free.c), (.slice Ao no co)], HpW rh32 ros33 hh34, Ae b2 50 zState, Bc w Bp]) (w := w115) (H119.sel [2, 0, 1, 3, 4, 5, 6] (by decide) rfl)
        refine RL.call Tryz.call187 (rnum_ _ S131 b59 A1 n1 c1 bs1 false hS132 ⟨(Dg hO133 (j := 5) Z hq1.1 (by omega)), hq1.2⟩) Z Z Z ?_
        rintro _ w135 ⟨x121, A122, n123, c124, bs125, bq126, rfl, g136, hnum127, hind128, hxle129⟩
        have H137 : Sp [Ae b59 213 [.slice A122 n123 c124, .bool bq126], Ae b108 123 [(J 0), (J 0), (J 0), (J 0)], At 123 4 Ao no co (rows l), Ae b68 50 [(J rh32.order), (.slice rh32.objs.a rh32.objs.n rh32.objs.c), (J rh32.next), (J rh32.t0), (J rh32.t1), (J rh32.t2), (J rh32.t3), (.slice rh32.free.a rh32.free.n rh32.free.c), (.slice Ao no co)], HpW rh32 ros33 hh34, Ae b2 50 zState, Bc w Bp] w135 := K134 _ _ g136
        have z138 := (H137.fix (i := 6) rfl).size
        have hq130 := hind128.r _ _ hq1
        refine zg Z (Dh (b := ⟨b108, 0, none⟩) Z Z) (RL.st (vs := [(J (x121 : Int))]) (cs' := [(J (x121 : Int)), (J 0), (J 0), (J 0)]) Tryz.sizeOf3 (H137.ob (i := 1) Z) Z Z Z Z Z Z ?_)
        intro w139 hz140 g141 o142
        have H143 : Sp [Ae b59 213 [.slice A122 n123 c124, .bool bq126], Ae b108 123 [(J (x121 : Int)), (J 0), (J 0), (J 0)], At 123 4 Ao no co (rows l), Ae b68 50 [(J rh32.order), (.slice rh32.objs.a rh32.objs.n rh32.objs.c), (J rh32.next), (J rh32.t0), (J rh32.t1), (J rh32.t2), (J rh32.t3), (.slice rh32.free.a rh32.free.n rh32.free.c), (.slice Ao no co)], HpW rh32 ros33 hh34, Ae b2 50 zState, Bc w Bp] w139 := H137.setB (i := 1) rfl g141 o142 rfl
        have z144 := g141.size
        refine RL.nil (thn.n (CW.seq (CW.region (zm (.pointer (some ⟨b59, 0, none⟩)) Z ?_))))
        obtain ⟨S155, hS156, hO157, K158⟩ := H143.takeN 1
        refine RL.call Tryz.call187 (rnum_ _ S155 b59 A122 n123 c124 bs125 bq126 hS156 ⟨(Dg hO157 (j := 5) Z hq130.1 (by omega)), hq130.2⟩) Z Z Z ?_
        rintro _ w159 ⟨x145, A146, n147, c148, bs149, bq150, rfl, g160, hnum151, hind152, hxle153⟩
        have H161 : Sp [Ae b59 213 [.slice A146 n147 c148, .bool bq150], Ae b108 123 [(J (x121 : Int)), (J 0), (J 0), (J 0)], At 123 4 Ao no co (rows l), Ae b68 50 [(J rh32.order), (.slice rh32.objs.a rh32.objs.n rh32.objs.c), (J rh32.next), (J rh32.t0), (J rh32.t1), (J rh32.t2), (J rh32.t3), (.slice rh32.free.a rh32.free.n rh32.free.c), (.slice Ao no co)], HpW rh32 ros33 hh34, Ae b2 50 zState, Bc w Bp] w159 := K158 _ _ g160
        have z162 := (H161.fix (i := 6) rfl).size
        have hq154 := hind152.r _ _ hq130
        refine zg Z (fa123_1 (b := ⟨b108, 1, none⟩) Z Z) (RL.st (vs := [(J (x145 : Int))]) (cs' := [(J (x121 : Int)), (J (x145 : Int)), (J 0), (J 0)]) Tryz.sizeOf3 (H161.ob (i := 1) Z) Z Z Z Z Z Z ?_)
        intro w163 hz164 g165 o166
        have H167 : Sp [Ae b59 213 [.slice A146 n147 c148, .bool bq150], Ae b108 123 [(J (x121 : Int)), (J (x145 : Int)), (J 0), (J 0)], At 123 4 Ao no co (rows l), Ae b68 50 [(J rh32.order), (.slice rh32.objs.a rh32.objs.n rh32.objs.c), (J rh32.next), (J rh32.t0), (J rh32.t1), (J rh32.t2), (J rh32.t3), (.slice rh32.free.a rh32.free.n rh32.free.c), (.slice Ao no co)], HpW rh32 ros33 hh34, Ae b2 50 zState, Bc w Bp] w163 := H161.setB (i := 1) rfl g165 o166 rfl
        have z168 := g165.size
        refine RL.nil (thn.n (CW.seq (CW.region (zm (.pointer (some ⟨b59, 0, none⟩)) Z ?_))))
        obtain ⟨S179, hS180, hO181, K182⟩ := H167.takeN 1
        refine RL.call Tryz.call187 (rnum_ _ S179 b59 A146 n147 c148 bs149 bq150 hS180 ⟨(Dg hO181 (j := 5) Z hq154.1 (by omega)), hq154.2⟩) Z Z Z ?_
        rintro _ w183 ⟨x169, A170, n171, c172, bs173, bq174, rfl, g184, hnum175, hind176, hxle177⟩
        have H185 : Sp [Ae b59 213 [.slice A170 n171 c172, .bool bq174], Ae b108 123 [(J (x121 : Int)), (J (x145 : Int)), (J 0), (J 0)], At 123 4 Ao no co (rows l), Ae b68 50 [(J rh32.order), (.slice rh32.objs.a rh32.objs.n rh32.objs.c), (J rh32.next), (J rh32.t0), (J rh32.t1), (J rh32.t2), (J rh32.t3), (.slice rh32.free.a rh32.free.n rh32.free.c), (.slice Ao no co)], HpW rh32 ros33 hh34, Ae b2 50 zState, Bc w Bp] w183 := K182 _ _ g184
        have z186 := (H185.fix (i := 6) rfl).size
        have hq178 := hind176.r _ _ hq154
        refine za (J (x169 : Int)) Z (RL.nil (thn.n (CW.seq (CW.region (zm (J (x169 : Int)) Z (zg Z (fa123_2 (b := ⟨b108, 2, none⟩) Z Z) (zg Z (fa55_0 (b := ⟨b108, 2, none⟩) Z Z) (RL.st (vs := [(J (x169 : Int))]) (cs' := [(J (x121 : Int)), (J (x145 : Int)), (J (x169 : Int)), (J 0)]) Tryz.sizeOf53 (H185.ob (i := 1) Z) Z Z Z Z Z Z ?_))))))))
        intro w187 hz188 g189 o190
        have H191 : Sp [Ae b59 213 [.slice A170 n171 c172, .bool bq174], Ae b108 123 [(J (x121 : Int)), (J (x145 : Int)), (J (x169 : Int)), (J 0)], At 123 4 Ao no co (rows l), Ae b68 50 [(J rh32.order), (.slice rh32.objs.a rh32.objs.n rh32.objs.c), (J rh32.next), (J rh32.t0), (J rh32.t1), (J rh32.t2), (J rh32.t3), (.slice rh32.free.a rh32.free.n rh32.free.c), (.slice Ao no co)], HpW rh32 ros33 hh34, Ae b2 50 zState, Bc w Bp] w187 := H185.setB (i := 1) rfl g189 o190 rfl
        have z192 := g189.size
        refine RL.nil (thn.n (CW.seq (CW.region (zm (.pointer (some ⟨b59, 0, none⟩)) Z ?_))))
        obtain ⟨S203, hS204, hO205, K206⟩ := H191.takeN 1
        refine RL.call Tryz.call188 (rint_ _ S203 b59 A170 n171 c172 bs173 bq174 hS204 ⟨(Dg hO205 (j := 5) Z hq178.1 (by omega)), hq178.2⟩) Z Z Z ?_
        rintro _ w207 ⟨x193, A194, n195, c196, bs197, bq198, rfl, g208, hnum199, hind200⟩
        have H209 : Sp [Ae b59 213 [.slice A194 n195 c196, .bool bq198], Ae b108 123 [(J (x121 : Int)), (J (x145 : Int)), (J (x169 : Int)), (J 0)], At 123 4 Ao no co (rows l), Ae b68 50 [(J rh32.order), (.slice rh32.objs.a rh32.objs.n rh32.objs.c), (J rh32.next), (J rh32.t0), (J rh32.t1), (J rh32.t2), (J rh32.t3), (.slice rh32.free.a rh32.free.n rh32.free.c), (.slice Ao no co)], HpW rh32 ros33 hh34, Ae b2 50 zState, Bc w Bp] w207 := K206 _ _ g208
        have z210 := (H209.fix (i := 6) rfl).size
        have hq202 := hind200.r _ _ hq178
        refine zg Z (fa123_2 (b := ⟨b108, 2, none⟩) Z Z) (zg Z (fa55_1 (b := ⟨b108, 3, none⟩) Z Z) (RL.st (vs := [(J x193)]) (cs' := [(J (x121 : Int)), (J (x145 : Int)), (J (x169 : Int)), (J x193)]) Tryz.sizeOf3 (H209.ob (i := 1) Z) Z Z Z Z Z Z ?_))
        intro w211 hz212 g213 o214
        have H215 : Sp [Ae b59 213 [.slice A194 n195 c196, .bool bq198], Ae b108 123 [(J (x121 : Int)), (J (x145 : Int)), (J (x169 : Int)), (J x193)], At 123 4 Ao no co (rows l), Ae b68 50 [(J rh32.order), (.slice rh32.objs.a rh32.objs.n rh32.objs.c), (J rh32.next), (J rh32.t0), (J rh32.t1), (J rh32.t2), (J rh32.t3), (.slice rh32.free.a rh32.free.n rh32.free.c), (.slice Ao no co)], HpW rh32 ros33 hh34, Ae b2 50 zState, Bc w Bp] w211 := H209.setB (i := 1) rfl g213 o214 rfl
        have z216 := g213.size
        refine RL.nil (thn.n (CW.region (zg Z (fa50_1 (b := ⟨b68, 8, none⟩) Z Z) (zl (.slice Ao no co) lo48 (H215.ob (i := 3) Z) Z (zg Z (Ag Z (Ak (cs := [(J (x121 : Int)), (J (x145 : Int)), (J (x169 : Int)), (J x193)]) wh123 (H215.ob (i := 1) Z).cl)) (RL.bs (cs := [(J (x121 : Int)), (J (x145 : Int)), (J (x169 : Int)), (J x193)]) Tryz.underlying48 Tryz.sizeOf123 ze48 Z Z Z (by decide) Z Z Z ?_))))))
        intro w217 b218 hb219 hz220 g221 o222
        have H223 := H215.newB g221 o222 (by omega)
        have z224 := g221.size
        refine RL.apW (base := 0) (xss := (rows l)) (yss := (rows ([(⟨(x121 : Int), (x145 : Int), (x169 : Int), x193⟩ : Row)]))) el48 (H223.wr (i := 3) Z) Z (Do (H223.ob (i := 0) Z) Z) Z (by simp only [Ap, Ar, Aq, Aj, Ai, Au, List.length_append, List.length_cons, List.length_nil, List.length_take, List.length_drop, List.length_map, Cq, Dk, Be, Bg, Cw]; try omega) (rows_one _) (by omega) (by omega) (by omega) Z Z ?_
        intro w225 A226 c227 g228 ow229 nx230
        have H231 : Sp [Ae b218 123 [(J (x121 : Int)), (J (x145 : Int)), (J (x169 : Int)), (J x193)], Ae b59 213 [.slice A194 n195 c196, .bool bq198], Ae b108 123 [(J (x121 : Int)), (J (x145 : Int)), (J (x169 : Int)), (J x193)], At 123 4 A226 (no + 1) c227 (rows (l ++ [(⟨(x121 : Int), (x145 : Int), (x169 : Int), x193⟩ : Row)])), Ae b68 50 [(J rh32.order), (.slice rh32.objs.a rh32.objs.n rh32.objs.c), (J rh32.next), (J rh32.t0), (J rh32.t1), (J rh32.t2), (J rh32.t3), (.slice rh32.free.a rh32.free.n rh32.free.c), (.slice Ao no co)], HpW rh32 ros33 hh34, Ae b2 50 zState, Bc w Bp] w225 := H223.setR (i := 3) rfl g228 ((rows_app _ _).symm ▸ ow229) nx230 rfl
        have z232 := g228.size
        refine zg Z (fa50_1 (b := ⟨b68, 8, none⟩) Z Z) (RL.st (vs := [(.slice A226 (no + 1) c227)]) (cs' := [(J rh32.order), (.slice rh32.objs.a rh32.objs.n rh32.objs.c), (J rh32.next), (J rh32.t0), (J rh32.t1), (J rh32.t2), (J rh32.t3), (.slice rh32.free.a rh32.free.n rh32.free.c), (.slice A226 (no + 1) c227)]) Tryz.sizeOf48 (H231.ob (i := 4) Z) Z Z Z Z Z Z ?_)
        intro w233 hz234 g235 o236
        have H237 : Sp [Ae b218 123 [(J (x121 : Int)), (J (x145 : Int)), (J (x169 : Int)), (J x193)], Ae b59 213 [.slice A194 n195 c196, .bool bq198], Ae b108 123 [(J (x121 : Int)), (J (x145 : Int)), (J (x169 : Int)), (J x193)], At 123 4 A226 (no + 1) c227 (rows (l ++ [(⟨(x121 : Int), (x145 : Int), (x169 : Int), x193⟩ : Row)])), Ae b68 50 [(J rh32.order), (.slice rh32.objs.a rh32.objs.n rh32.objs.c), (J rh32.next), (J rh32.t0), (J rh32.t1), (J rh32.t2), (J rh32.t3), (.slice rh32.free.a rh32.free.n rh32.free.c), (.slice A226 (no + 1) c227)], HpW rh32 ros33 hh34, Ae b2 50 zState, Bc w Bp] w233 := H231.setB (i := 4) rfl g235 o236 rfl
        have z238 := g235.size
        refine RL.nil (inB.n (thn.n (CW.region (zm (J (k : Int)) Z (zg Z (Ex.add (r := (k : Int) + 1) Z Z (Dd (by omega) (by omega))) (za (J ((k : Int) + 1)) Z (RL.nil (thn.n ?_))))))))
        refine ⟨(by repeat (first | exact Out.mix _ _ | exact Out.refl _ _ | refine Bf ?_ Z _ | refine Ch ?_ (by intro t ht; simp only [Bool.or_eq_false_iff, Bool.and_eq_false_iff, ble_f, beq_f] at ht ⊢; omega))), _, ?_, k + 1, n195, c196, no + 1, c227, A194, A226, l ++ [(⟨(x121 : Int), (x145 : Int), (x169 : Int), x193⟩ : Row)], bs197, bq198, Z, Z, (H237.sel [3, 1, 4, 5, 6, 7] (by decide) Z), by omega, by omega, manyF_go hmy (rowF_mk hnum127 hnum151 hnum175 hnum199), by omega, hin1.trans ((hind128.trans hind152).trans (hind176.trans hind200))⟩
        omega
       ·skip
        refine zg Z (Ex.not (b := true) Z) (zT bF Z (RL.nil (thn.n (Ad Z (CW.exit (thn.x (thn.x (Bh (thn.n (CW.seq (CW.seq ?_)))))))))))
        have hgs := getState_ref hrt12 hgh35 hnum87 hmy (by omega) (by first | exact .inl (by omega) | exact .inr (.inl (by omega)) | exact .inr (.inr rfl))
        have hrl := H103.len (i := 0) rfl
        rw [Aq] at hrl
        have hq1l := hq1.2.1
        refine CW.region (zm (.pointer (some ⟨b59, 0, none⟩)) Z (zg Z (Bj Z) (zg Z (fa213_1 (b := ⟨b59, 1, none⟩) Z Z) (zl (bT) lo4 (H103.ob (i := 1) Z) Z (zm bT Z (zo Z (zo Z (zo Z (zo Z (zo Z ?_))))))))))
        refine zo Z (zT bT Z (zm bT Z (zo Z (zo Z (zo Z (zo Z (zo Z (zT bT Z (zm bT Z (zo Z ?_))))))))))
        refine zo Z (zo Z (zT bT Z (RL.nil (thn.n (Aa Z (CW.seq (CW.region (zg Z (Ce (cs := zState) bd50 Z) (RL.st (vs := zState) (cs' := zState) Tryz.sizeOf50 (H103.ob (i := 4) Z) Z Z Z Z Z Z ?_)))))))))
        intro w239 hz240 g241 o242
        have H243 : Sp [At 123 4 Ao no co (rows l), Ae b59 213 [.slice A1 n1 c1, .bool true], Ae b68 50 [(J rh32.order), (.slice rh32.objs.a rh32.objs.n rh32.objs.c), (J rh32.next), (J rh32.t0), (J rh32.t1), (J rh32.t2), (J rh32.t3), (.slice rh32.free.a rh32.free.n rh32.free.c), (.slice Ao no co)], HpW rh32 ros33 hh34, Ae b2 50 zState, Bc w Bp] w239 := H103.setB (i := 4) rfl g241 o242 rfl
        have z244 := g241.size
        refine za (J 60) Z (RL.nil (thn.n (CW.ret (thn.r (finQ.r (v := (.tuple #[(.agg (zState).toArray), (J 60)])) (Dc Z (Rv.cell Z (Ak (cs := zState) wh50 (H243.ob (i := 4) Z).cl)) (Rv.tmp Z)) ?_)))))
        exact .inr ⟨rfl, (H243.fix (i := 5) rfl), by rw [hgs, if_neg (fun ⟨q1, q2, q3, q4⟩ => by first | (cases q1; done) | (rw [q2] at hq1l; simp only [List.length_nil] at hq1l; omega) | omega)]⟩
      ·skip
       refine zT bF Z (zm bF Z (zo Z (zo Z (zo Z (zo Z (zo Z (zF bF Z (RL.nil (thn.n (Ad Z (CW.exit (thn.x (thn.x (Bh (thn.n (CW.seq (CW.seq ?_)))))))))))))))))
       have hgs := getState_ref hrt12 hgh35 hnum87 hmy (by omega) (by first | exact .inl (by omega) | exact .inr (.inl (by omega)) | exact .inr (.inr rfl))
       have hrl := H103.len (i := 0) rfl
       rw [Aq] at hrl
       have hq1l := hq1.2.1
       refine CW.region (zm (.pointer (some ⟨b59, 0, none⟩)) Z (zg Z (Bj Z) (zg Z (fa213_1 (b := ⟨b59, 1, none⟩) Z Z) (zl (.bool b1) lo4 (H103.ob (i := 1) Z) Z ?_))))
       rcases b1 with _ | _
       ·skip
        refine zm bF Z (zm (.pointer (some ⟨b59, 0, none⟩)) Z (zg Z (Bj Z) (zg Z (fa213_0 (b := ⟨b59, 0, none⟩) Z Z) (zl (.slice A1 n1 c1) lo97 (H103.ob (i := 1) Z) Z (zg Z (Ex.len Tryz.underlying97 Z) ?_)))))
        refine zc ((0 : Int) < ((n1 : Nat) : Int)) Z (fun r hr => Cv Z Z hr) (fun h245 => ?_) (fun h245 => ?_)
        ·skip
         refine zF bT Z (zm bT Z (zo Z (zo Z (zo Z (zo Z (zo Z (zT bT Z (zm bT Z (zo Z (zo Z ?_))))))))))
         refine zo Z (zT bT Z (RL.nil (thn.n (Aa Z (CW.seq (CW.region (zg Z (Ce (cs := zState) bd50 Z) (RL.st (vs := zState) (cs' := zState) Tryz.sizeOf50 (H103.ob (i := 4) Z) Z Z Z Z Z Z ?_))))))))
         intro w246 hz247 g248 o249
         have H250 : Sp [At 123 4 Ao no co (rows l), Ae b59 213 [.slice A1 n1 c1, .bool false], Ae b68 50 [(J rh32.order), (.slice rh32.objs.a rh32.objs.n rh32.objs.c), (J rh32.next), (J rh32.t0), (J rh32.t1), (J rh32.t2), (J rh32.t3), (.slice rh32.free.a rh32.free.n rh32.free.c), (.slice Ao no co)], HpW rh32 ros33 hh34, Ae b2 50 zState, Bc w Bp] w246 := H103.setB (i := 4) rfl g248 o249 rfl
         have z251 := g248.size
         refine za (J 60) Z (RL.nil (thn.n (CW.ret (thn.r (finQ.r (v := (.tuple #[(.agg (zState).toArray), (J 60)])) (Dc Z (Rv.cell Z (Ak (cs := zState) wh50 (H250.ob (i := 4) Z).cl)) (Rv.tmp Z)) ?_)))))
         exact .inr ⟨rfl, (H250.fix (i := 5) rfl), by rw [hgs, if_neg (fun ⟨q1, q2, q3, q4⟩ => by first | (cases q1; done) | (rw [q2] at hq1l; simp only [List.length_nil] at hq1l; omega) | omega)]⟩
        ·skip
         refine zF bF Z (zm bF Z (zm (J (x81 : Int)) Z (zg Z (fa50_1 (b := ⟨b68, 8, none⟩) Z Z) (zl (.slice Ao no co) lo48 (H103.ob (i := 2) Z) Z (zg Z (Ex.len Tryz.underlying48 Z) ?_)))))
         refine zc (((x81 : Int) : Int) ≠ ((no : Nat) : Int)) Z (fun r hr => Cd Z Z hr) (fun h252 => ?_) (fun h252 => ?_)
         ·skip
          refine zF bT Z (zm bT Z (zo Z (zo Z (zo Z (zT bT Z (RL.nil (thn.n (Aa Z (CW.seq (CW.region (zg Z (Ce (cs := zState) bd50 Z) (RL.st (vs := zState) (cs' := zState) Tryz.sizeOf50 (H103.ob (i := 4) Z) Z Z Z Z Z Z ?_))))))))))))
          intro w253 hz254 g255 o256
          have H257 : Sp [At 123 4 Ao no co (rows l), Ae b59 213 [.slice A1 n1 c1, .bool false], Ae b68 50 [(J rh32.order), (.slice rh32.objs.a rh32.objs.n rh32.objs.c), (J rh32.next), (J rh32.t0), (J rh32.t1), (J rh32.t2), (J rh32.t3), (.slice rh32.free.a rh32.free.n rh32.free.c), (.slice Ao no co)], HpW rh32 ros33 hh34, Ae b2 50 zState, Bc w Bp] w253 := H103.setB (i := 4) rfl g255 o256 rfl
          have z258 := g255.size
          refine za (J 60) Z (RL.nil (thn.n (CW.ret (thn.r (finQ.r (v := (.tuple #[(.agg (zState).toArray), (J 60)])) (Dc Z (Rv.cell Z (Ak (cs := zState) wh50 (H257.ob (i := 4) Z).cl)) (Rv.tmp Z)) ?_)))))
          exact .inr ⟨rfl, (H257.fix (i := 5) rfl), by rw [hgs, if_neg (fun ⟨q1, q2, q3, q4⟩ => by first | (cases q1; done) | (rw [q2] at hq1l; simp only [List.length_nil] at hq1l; omega) | omega)]⟩
         ·skip
          refine zF bF Z (zm bF Z ?_)
          have H259 : Sp [StW (⟨rh32, ⟨Ao, no, co⟩⟩ : RState) ros33 (⟨hh34, l⟩ : Eng.State), Ae b59 213 [.slice A1 n1 c1, .bool false], Ae b68 50 [(J rh32.order), (.slice rh32.objs.a rh32.objs.n rh32.objs.c), (J rh32.next), (J rh32.t0), (J rh32.t1), (J rh32.t2), (J rh32.t3), (.slice rh32.free.a rh32.free.n rh32.free.c), (.slice Ao no co)], Ae b2 50 zState, Bc w Bp] w100 := (Sp.stMk (rs := (⟨rh32, ⟨Ao, no, co⟩⟩ : RState)) (ros := ros33) (s := (⟨hh34, l⟩ : Eng.State)) (H103.sel [3, 0, 1, 2, 4, 5] (by decide) rfl) (by show no ≤ _; omega))
          refine zg Z (Ag Z (Ak (cs := [(J rh32.order), (.slice rh32.objs.a rh32.objs.n rh32.objs.c), (J rh32.next), (J rh32.t0), (J rh32.t1), (J rh32.t2), (J rh32.t3), (.slice rh32.free.a rh32.free.n rh32.free.c), (.slice Ao no co)]) wh50 (H259.ob (i := 2) Z).cl)) (RL.call Tryz.call104 (rightS_ _ _ (⟨rh32, ⟨Ao, no, co⟩⟩ : RState) _ _ (H259.stWR (i := 0) Z) (Nat.le_refl _) (by first | assumption | omega | (dsimp only; omega))) Z Z Z ?_)
          rintro _ w260 ⟨rfl, g261⟩
          have H262 := H259.grow g261
          have z263 := g261.size
          rcases hb264 : (Cx (⟨hh34, l⟩ : Eng.State)) with _ | _
          ·skip
           refine zg Z (Ex.not (b := false) Z) (zF bT Z (RL.nil (thn.n (Aa Z (CW.seq (CW.region (zg Z (Ce (cs := zState) bd50 Z) (RL.st (vs := zState) (cs' := zState) Tryz.sizeOf50 (H262.ob (i := 3) Z) Z Z Z Z Z Z ?_))))))))
           intro w265 hz266 g267 o268
           have H269 : Sp [StW (⟨rh32, ⟨Ao, no, co⟩⟩ : RState) ros33 (⟨hh34, l⟩ : Eng.State), Ae b59 213 [.slice A1 n1 c1, .bool false], Ae b68 50 [(J rh32.order), (.slice rh32.objs.a rh32.objs.n rh32.objs.c), (J rh32.next), (J rh32.t0), (J rh32.t1), (J rh32.t2), (J rh32.t3), (.slice rh32.free.a rh32.free.n rh32.free.c), (.slice Ao no co)], Ae b2 50 zState, Bc w Bp] w265 := H262.setB (i := 3) rfl g267 o268 rfl
           have z270 := g267.size
           refine za (J 60) Z (RL.nil (thn.n (CW.ret (thn.r (finQ.r (v := (.tuple #[(.agg (zState).toArray), (J 60)])) (Dc Z (Rv.cell Z (Ak (cs := zState) wh50 (H269.ob (i := 3) Z).cl)) (Rv.tmp Z)) ?_)))))
           exact .inr ⟨rfl, (H269.fix (i := 4) rfl), by rw [hgs, if_neg (fun ⟨q1, q2, q3, q4⟩ => by first | (cases q1; done) | (rw [q2] at hq1l; simp only [List.length_nil] at hq1l; omega) | (rw [hb264] at q4; cases q4) | omega)]⟩
          ·skip
           refine zg Z (Ex.not (b := true) Z) (zF bF Z (RL.nil (thn.n (Ad Z (CW.skip (thn.n (CW.seq (CW.region (zg Z (Ag Z (Ak (cs := [(J rh32.order), (.slice rh32.objs.a rh32.objs.n rh32.objs.c), (J rh32.next), (J rh32.t0), (J rh32.t1), (J rh32.t2), (J rh32.t3), (.slice rh32.free.a rh32.free.n rh32.free.c), (.slice Ao no co)]) wh50 (H262.ob (i := 2) Z).cl)) (RL.st (vs := [(J rh32.order), (.slice rh32.objs.a rh32.objs.n rh32.objs.c), (J rh32.next), (J rh32.t0), (J rh32.t1), (J rh32.t2), (J rh32.t3), (.slice rh32.free.a rh32.free.n rh32.free.c), (.slice Ao no co)]) (cs' := [(J rh32.order), (.slice rh32.objs.a rh32.objs.n rh32.objs.c), (J rh32.next), (J rh32.t0), (J rh32.t1), (J rh32.t2), (J rh32.t3), (.slice rh32.free.a rh32.free.n rh32.free.c), (.slice Ao no co)]) Tryz.sizeOf50 (H262.ob (i := 3) Z) Z Z Z Z Z Z ?_))))))))))
           intro w271 hz272 g273 o274
           have H275 : Sp [StW (⟨rh32, ⟨Ao, no, co⟩⟩ : RState) ros33 (⟨hh34, l⟩ : Eng.State), Ae b59 213 [.slice A1 n1 c1, .bool false], Ae b68 50 [(J rh32.order), (.slice rh32.objs.a rh32.objs.n rh32.objs.c), (J rh32.next), (J rh32.t0), (J rh32.t1), (J rh32.t2), (J rh32.t3), (.slice rh32.free.a rh32.free.n rh32.free.c), (.slice Ao no co)], Ae b2 50 [(J rh32.order), (.slice rh32.objs.a rh32.objs.n rh32.objs.c), (J rh32.next), (J rh32.t0), (J rh32.t1), (J rh32.t2), (J rh32.t3), (.slice rh32.free.a rh32.free.n rh32.free.c), (.slice Ao no co)], Bc w Bp] w271 := H262.setB (i := 3) rfl g273 o274 rfl
           have z276 := g273.size
           refine za (J 0) Z (RL.nil (thn.n (CW.ret (finQ.r (v := (.tuple #[(.agg ([(J rh32.order), (.slice rh32.objs.a rh32.objs.n rh32.objs.c), (J rh32.next), (J rh32.t0), (J rh32.t1), (J rh32.t2), (J rh32.t3), (.slice rh32.free.a rh32.free.n rh32.free.c), (.slice Ao no co)]).toArray), (J 0)])) (Dc Z (Rv.cell Z (Ak (cs := [(J rh32.order), (.slice rh32.objs.a rh32.objs.n rh32.objs.c), (J rh32.next), (J rh32.t0), (J rh32.t1), (J rh32.t2), (J rh32.t3), (.slice rh32.free.a rh32.free.n rh32.free.c), (.slice Ao no co)]) wh50 (H275.ob (i := 3) Z).cl)) (Rv.tmp Z)) ?_))))
           exact .inl ⟨(⟨rh32, ⟨Ao, no, co⟩⟩ : RState), ros33, _, Z, (H275.sel [0, 4] (by decide) Z), by rw [hgs, if_pos ⟨Z, List.eq_nil_of_length_eq_zero (by omega), by omega, hb264⟩], hb264⟩
       ·skip
        refine zm bT Z (zo Z (zo Z (zo Z (zo Z (zo Z (zo Z (zT bT Z (zm bT Z (zo Z (zo Z ?_))))))))))
        refine zo Z (zo Z (zo Z (zT bT Z (zm bT Z (zo Z (zo Z (zo Z (zT bT Z (RL.nil (thn.n (Aa Z (CW.seq (CW.region (zg Z (Ce (cs := zState) bd50 Z) ?_))))))))))))))
        refine RL.st (vs := zState) (cs' := zState) Tryz.sizeOf50 (H103.ob (i := 4) Z) Z Z Z Z Z Z ?_
        intro w277 hz278 g279 o280
        have H281 : Sp [At 123 4 Ao no co (rows l), Ae b59 213 [.slice A1 n1 c1, .bool true], Ae b68 50 [(J rh32.order), (.slice rh32.objs.a rh32.objs.n rh32.objs.c), (J rh32.next), (J rh32.t0), (J rh32.t1), (J rh32.t2), (J rh32.t3), (.slice rh32.free.a rh32.free.n rh32.free.c), (.slice Ao no co)], HpW rh32 ros33 hh34, Ae b2 50 zState, Bc w Bp] w277 := H103.setB (i := 4) rfl g279 o280 rfl
        have z282 := g279.size
        refine za (J 60) Z (RL.nil (thn.n (CW.ret (thn.r (finQ.r (v := (.tuple #[(.agg (zState).toArray), (J 60)])) (Dc Z (Rv.cell Z (Ak (cs := zState) wh50 (H281.ob (i := 4) Z).cl)) (Rv.tmp Z)) ?_)))))
        exact .inr ⟨rfl, (H281.fix (i := 5) rfl), by rw [hgs, if_neg (fun ⟨q1, q2, q3, q4⟩ => by first | (cases q1; done) | (rw [q2] at hq1l; simp only [List.length_nil] at hq1l; omega) | omega)]⟩
     ·skip
      refine zm bF Z (zo Z (zo Z (zF bF Z (zm bF Z (zo Z (zo Z (zo Z (zo Z (zo Z (zF bF Z ?_))))))))))
      refine RL.nil (thn.n (Ad Z (CW.exit (thn.x (thn.x (Bh (thn.n (CW.seq (CW.seq ?_)))))))))
      have hgs := getState_ref hrt12 hgh35 hnum87 hmy (by omega) (by first | exact .inl (by omega) | exact .inr (.inl (by omega)) | exact .inr (.inr rfl))
      have hrl := H103.len (i := 0) rfl
      rw [Aq] at hrl
      have hq1l := hq1.2.1
      refine CW.region (zm (.pointer (some ⟨b59, 0, none⟩)) Z (zg Z (Bj Z) (zg Z (fa213_1 (b := ⟨b59, 1, none⟩) Z Z) (zl (.bool b1) lo4 (H103.ob (i := 1) Z) Z ?_))))
      rcases b1 with _ | _
      ·skip
       refine zm bF Z (zm (.pointer (some ⟨b59, 0, none⟩)) Z (zg Z (Bj Z) (zg Z (fa213_0 (b := ⟨b59, 0, none⟩) Z Z) (zl (.slice A1 n1 c1) lo97 (H103.ob (i := 1) Z) Z (zg Z (Ex.len Tryz.underlying97 Z) ?_)))))
       refine zc ((0 : Int) < ((n1 : Nat) : Int)) Z (fun r hr => Cv Z Z hr) (fun h283 => ?_) (fun h283 => ?_)
       ·skip
        refine zF bT Z (zm bT Z (zo Z (zo Z (zo Z (zo Z (zo Z (zT bT Z (zm bT Z (zo Z (zo Z ?_))))))))))
        refine zo Z (zT bT Z (RL.nil (thn.n (Aa Z (CW.seq (CW.region (zg Z (Ce (cs := zState) bd50 Z) (RL.st (vs := zState) (cs' := zState) Tryz.sizeOf50 (H103.ob (i := 4) Z) Z Z Z Z Z Z ?_))))))))
        intro w284 hz285 g286 o287
        have H288 : Sp [At 123 4 Ao no co (rows l), Ae b59 213 [.slice A1 n1 c1, .bool false], Ae b68 50 [(J rh32.order), (.slice rh32.objs.a rh32.objs.n rh32.objs.c), (J rh32.next), (J rh32.t0), (J rh32.t1), (J rh32.t2), (J rh32.t3), (.slice rh32.free.a rh32.free.n rh32.free.c), (.slice Ao no co)], HpW rh32 ros33 hh34, Ae b2 50 zState, Bc w Bp] w284 := H103.setB (i := 4) rfl g286 o287 rfl
        have z289 := g286.size
        refine za (J 60) Z (RL.nil (thn.n (CW.ret (thn.r (finQ.r (v := (.tuple #[(.agg (zState).toArray), (J 60)])) (Dc Z (Rv.cell Z (Ak (cs := zState) wh50 (H288.ob (i := 4) Z).cl)) (Rv.tmp Z)) ?_)))))
        exact .inr ⟨rfl, (H288.fix (i := 5) rfl), by rw [hgs, if_neg (fun ⟨q1, q2, q3, q4⟩ => by first | (cases q1; done) | (rw [q2] at hq1l; simp only [List.length_nil] at hq1l; omega) | omega)]⟩
       ·skip
        refine zF bF Z (zm bF Z (zm (J (x81 : Int)) Z (zg Z (fa50_1 (b := ⟨b68, 8, none⟩) Z Z) (zl (.slice Ao no co) lo48 (H103.ob (i := 2) Z) Z (zg Z (Ex.len Tryz.underlying48 Z) ?_)))))
        refine zc (((x81 : Int) : Int) ≠ ((no : Nat) : Int)) Z (fun r hr => Cd Z Z hr) (fun h290 => ?_) (fun h290 => ?_)
        ·skip
         refine zF bT Z (zm bT Z (zo Z (zo Z (zo Z (zT bT Z (RL.nil (thn.n (Aa Z (CW.seq (CW.region (zg Z (Ce (cs := zState) bd50 Z) (RL.st (vs := zState) (cs' := zState) Tryz.sizeOf50 (H103.ob (i := 4) Z) Z Z Z Z Z Z ?_))))))))))))
         intro w291 hz292 g293 o294
         have H295 : Sp [At 123 4 Ao no co (rows l), Ae b59 213 [.slice A1 n1 c1, .bool false], Ae b68 50 [(J rh32.order), (.slice rh32.objs.a rh32.objs.n rh32.objs.c), (J rh32.next), (J rh32.t0), (J rh32.t1), (J rh32.t2), (J rh32.t3), (.slice rh32.free.a rh32.free.n rh32.free.c), (.slice Ao no co)], HpW rh32 ros33 hh34, Ae b2 50 zState, Bc w Bp] w291 := H103.setB (i := 4) rfl g293 o294 rfl
         have z296 := g293.size
         refine za (J 60) Z (RL.nil (thn.n (CW.ret (thn.r (finQ.r (v := (.tuple #[(.agg (zState).toArray), (J 60)])) (Dc Z (Rv.cell Z (Ak (cs := zState) wh50 (H295.ob (i := 4) Z).cl)) (Rv.tmp Z)) ?_)))))
         exact .inr ⟨rfl, (H295.fix (i := 5) rfl), by rw [hgs, if_neg (fun ⟨q1, q2, q3, q4⟩ => by first | (cases q1; done) | (rw [q2] at hq1l; simp only [List.length_nil] at hq1l; omega) | omega)]⟩
        ·skip
         refine zF bF Z (zm bF Z ?_)
         have H297 : Sp [StW (⟨rh32, ⟨Ao, no, co⟩⟩ : RState) ros33 (⟨hh34, l⟩ : Eng.State), Ae b59 213 [.slice A1 n1 c1, .bool false], Ae b68 50 [(J rh32.order), (.slice rh32.objs.a rh32.objs.n rh32.objs.c), (J rh32.next), (J rh32.t0), (J rh32.t1), (J rh32.t2), (J rh32.t3), (.slice rh32.free.a rh32.free.n rh32.free.c), (.slice Ao no co)], Ae b2 50 zState, Bc w Bp] w100 := (Sp.stMk (rs := (⟨rh32, ⟨Ao, no, co⟩⟩ : RState)) (ros := ros33) (s := (⟨hh34, l⟩ : Eng.State)) (H103.sel [3, 0, 1, 2, 4, 5] (by decide) rfl) (by show no ≤ _; omega))
         refine zg Z (Ag Z (Ak (cs := [(J rh32.order), (.slice rh32.objs.a rh32.objs.n rh32.objs.c), (J rh32.next), (J rh32.t0), (J rh32.t1), (J rh32.t2), (J rh32.t3), (.slice rh32.free.a rh32.free.n rh32.free.c), (.slice Ao no co)]) wh50 (H297.ob (i := 2) Z).cl)) (RL.call Tryz.call104 (rightS_ _ _ (⟨rh32, ⟨Ao, no, co⟩⟩ : RState) _ _ (H297.stWR (i := 0) Z) (Nat.le_refl _) (by first | assumption | omega | (dsimp only; omega))) Z Z Z ?_)
         rintro _ w298 ⟨rfl, g299⟩
         have H300 := H297.grow g299
         have z301 := g299.size
         rcases hb302 : (Cx (⟨hh34, l⟩ : Eng.State)) with _ | _
         ·skip
          refine zg Z (Ex.not (b := false) Z) (zF bT Z (RL.nil (thn.n (Aa Z (CW.seq (CW.region (zg Z (Ce (cs := zState) bd50 Z) (RL.st (vs := zState) (cs' := zState) Tryz.sizeOf50 (H300.ob (i := 3) Z) Z Z Z Z Z Z ?_))))))))
          intro w303 hz304 g305 o306
          have H307 : Sp [StW (⟨rh32, ⟨Ao, no, co⟩⟩ : RState) ros33 (⟨hh34, l⟩ : Eng.State), Ae b59 213 [.slice A1 n1 c1, .bool false], Ae b68 50 [(J rh32.order), (.slice rh32.objs.a rh32.objs.n rh32.objs.c), (J rh32.next), (J rh32.t0), (J rh32.t1), (J rh32.t2), (J rh32.t3), (.slice rh32.free.a rh32.free.n rh32.free.c), (.slice Ao no co)], Ae b2 50 zState, Bc w Bp] w303 := H300.setB (i := 3) rfl g305 o306 rfl
          have z308 := g305.size
          refine za (J 60) Z (RL.nil (thn.n (CW.ret (thn.r (finQ.r (v := (.tuple #[(.agg (zState).toArray), (J 60)])) (Dc Z (Rv.cell Z (Ak (cs := zState) wh50 (H307.ob (i := 3) Z).cl)) (Rv.tmp Z)) ?_)))))
          exact .inr ⟨rfl, (H307.fix (i := 4) rfl), by rw [hgs, if_neg (fun ⟨q1, q2, q3, q4⟩ => by first | (cases q1; done) | (rw [q2] at hq1l; simp only [List.length_nil] at hq1l; omega) | (rw [hb302] at q4; cases q4) | omega)]⟩
         ·skip
          refine zg Z (Ex.not (b := true) Z) (zF bF Z (RL.nil (thn.n (Ad Z (CW.skip (thn.n (CW.seq (CW.region (zg Z (Ag Z (Ak (cs := [(J rh32.order), (.slice rh32.objs.a rh32.objs.n rh32.objs.c), (J rh32.next), (J rh32.t0), (J rh32.t1), (J rh32.t2), (J rh32.t3), (.slice rh32.free.a rh32.free.n rh32.free.c), (.slice Ao no co)]) wh50 (H300.ob (i := 2) Z).cl)) (RL.st (vs := [(J rh32.order), (.slice rh32.objs.a rh32.objs.n rh32.objs.c), (J rh32.next), (J rh32.t0), (J rh32.t1), (J rh32.t2), (J rh32.t3), (.slice rh32.free.a rh32.free.n rh32.free.c), (.slice Ao no co)]) (cs' := [(J rh32.order), (.slice rh32.objs.a rh32.objs.n rh32.objs.c), (J rh32.next), (J rh32.t0), (J rh32.t1), (J rh32.t2), (J rh32.t3), (.slice rh32.free.a rh32.free.n rh32.free.c), (.slice Ao no co)]) Tryz.sizeOf50 (H300.ob (i := 3) Z) Z Z Z Z Z Z ?_))))))))))
          intro w309 hz310 g311 o312
          have H313 : Sp [StW (⟨rh32, ⟨Ao, no, co⟩⟩ : RState) ros33 (⟨hh34, l⟩ : Eng.State), Ae b59 213 [.slice A1 n1 c1, .bool false], Ae b68 50 [(J rh32.order), (.slice rh32.objs.a rh32.objs.n rh32.objs.c), (J rh32.next), (J rh32.t0), (J rh32.t1), (J rh32.t2), (J rh32.t3), (.slice rh32.free.a rh32.free.n rh32.free.c), (.slice Ao no co)], Ae b2 50 [(J rh32.order), (.slice rh32.objs.a rh32.objs.n rh32.objs.c), (J rh32.next), (J rh32.t0), (J rh32.t1), (J rh32.t2), (J rh32.t3), (.slice rh32.free.a rh32.free.n rh32.free.c), (.slice Ao no co)], Bc w Bp] w309 := H300.setB (i := 3) rfl g311 o312 rfl
          have z314 := g311.size
          refine za (J 0) Z (RL.nil (thn.n (CW.ret (finQ.r (v := (.tuple #[(.agg ([(J rh32.order), (.slice rh32.objs.a rh32.objs.n rh32.objs.c), (J rh32.next), (J rh32.t0), (J rh32.t1), (J rh32.t2), (J rh32.t3), (.slice rh32.free.a rh32.free.n rh32.free.c), (.slice Ao no co)]).toArray), (J 0)])) (Dc Z (Rv.cell Z (Ak (cs := [(J rh32.order), (.slice rh32.objs.a rh32.objs.n rh32.objs.c), (J rh32.next), (J rh32.t0), (J rh32.t1), (J rh32.t2), (J rh32.t3), (.slice rh32.free.a rh32.free.n rh32.free.c), (.slice Ao no co)]) wh50 (H313.ob (i := 3) Z).cl)) (Rv.tmp Z)) ?_))))
          exact .inl ⟨(⟨rh32, ⟨Ao, no, co⟩⟩ : RState), ros33, _, Z, (H313.sel [0, 4] (by decide) Z), by rw [hgs, if_pos ⟨Z, List.eq_nil_of_length_eq_zero (by omega), by omega, hb302⟩], hb302⟩
      ·skip
       refine zm bT Z (zo Z (zo Z (zo Z (zo Z (zo Z (zo Z (zT bT Z (zm bT Z (zo Z (zo Z ?_))))))))))
       refine zo Z (zo Z (zo Z (zT bT Z (zm bT Z (zo Z (zo Z (zo Z (zT bT Z (RL.nil (thn.n (Aa Z (CW.seq (CW.region (zg Z (Ce (cs := zState) bd50 Z) ?_))))))))))))))
       refine RL.st (vs := zState) (cs' := zState) Tryz.sizeOf50 (H103.ob (i := 4) Z) Z Z Z Z Z Z ?_
       intro w315 hz316 g317 o318
       have H319 : Sp [At 123 4 Ao no co (rows l), Ae b59 213 [.slice A1 n1 c1, .bool true], Ae b68 50 [(J rh32.order), (.slice rh32.objs.a rh32.objs.n rh32.objs.c), (J rh32.next), (J rh32.t0), (J rh32.t1), (J rh32.t2), (J rh32.t3), (.slice rh32.free.a rh32.free.n rh32.free.c), (.slice Ao no co)], HpW rh32 ros33 hh34, Ae b2 50 zState, Bc w Bp] w315 := H103.setB (i := 4) rfl g317 o318 rfl
       have z320 := g317.size
       refine za (J 60) Z (RL.nil (thn.n (CW.ret (thn.r (finQ.r (v := (.tuple #[(.agg (zState).toArray), (J 60)])) (Dc Z (Rv.cell Z (Ak (cs := zState) wh50 (H319.ob (i := 4) Z).cl)) (Rv.tmp Z)) ?_)))))
       exact .inr ⟨rfl, (H319.fix (i := 5) rfl), by rw [hgs, if_neg (fun ⟨q1, q2, q3, q4⟩ => by first | (cases q1; done) | (rw [q2] at hq1l; simp only [List.length_nil] at hq1l; omega) | omega)]⟩
   ·skip
    have H321 := H30.grow g40
    have z322 := g40.size
    refine zm (.tuple #[(.agg (zHeap).toArray), (J 60)]) Z (zx (.agg (zHeap).toArray) Z (zx (J 60) Z (RL.al (cs := zHeap) Tryz.zeroValue47 Z Z Z ?_)))
    intro w323 b324 hb325 hz326 g327 o328
    have H329 := H321.newB g327 o328 (by omega)
    have z330 := g327.size
    refine RL.st (vs := zHeap) (cs' := zHeap) Tryz.sizeOf47 (H329.ob (i := 0) Z) Z Z Z Z Z Z ?_
    intro w331 hz332 g333 o334
    have H335 : Sp [Ae b324 47 zHeap, Ae b2 50 zState, Bc w Bp] w331 := H329.setB (i := 0) rfl g333 o334 rfl
    have z336 := g333.size
    refine za (J 60) Z (RL.nil (thn.n (CW.seq (CW.seq (CW.region (zm (J 0) Z (zg Z (Cd (r := false) Z Z (by decide)) (zm bF Z (zm (J 60) Z (zg Z (Cd (r := true) Z Z (by decide)) (zF bT Z (RL.nil (thn.n (Aa Z (CW.seq (CW.region (zg Z (Ce (cs := zState) bd50 Z) (RL.st (vs := zState) (cs' := zState) Tryz.sizeOf50 (H335.ob (i := 1) Z) Z Z Z Z Z Z ?_))))))))))))))))))
    intro w337 hz338 g339 o340
    have H341 : Sp [Ae b324 47 zHeap, Ae b2 50 zState, Bc w Bp] w337 := H335.setB (i := 1) rfl g339 o340 rfl
    have z342 := g339.size
    refine za (J 60) Z (RL.nil (thn.n (CW.ret (thn.r (finQ.r (v := (.tuple #[(.agg (zState).toArray), (J 60)])) (Dc Z (Rv.cell Z (Ak (cs := zState) wh50 (H341.ob (i := 1) Z).cl)) (Rv.tmp Z)) ?_)))))
    exact .inr ⟨Z, (H341.fix (i := 2) Z), getState_no2 hrt12 hgh36⟩
  ·skip
   have H343 := H7.grow g19
   have z344 := g19.size
   refine zm (.tuple #[(.string (tx [])), (J 0), (J e11)]) Z (zx (.string (tx [])) Z (zx (J 0) Z (zx (J e11) Z (za (.string (tx [])) Z (za (J 0) Z (za (J e11) Z (RL.nil (thn.n (CW.seq (CW.region (zm (.string (tx [])) Z (RL.s2bT (l := []) Tryz.underlying9 Tryz.underlying97 Tryz.underlying5 Z Z Z ?_))))))))))))
   intro w345 b346 c347 hb348 hz349 g350 rd351 hc352
   have H353 := H343.grow g350
   have z354 := g350.size
   refine RL.call Tryz.call186 (getHeapR_ _ _ ([]) (some ⟨b346, 0, none⟩) (([]).length) c347 ⟨rd351, by first | rfl | omega, by omega, by first | omega | (simp only [List.length_nil]; omega)⟩ (by omega)) Z Z Z ?_
   rintro _ w361 (⟨rh355, ros356, hh357, rfl, g362, hgh358, hhb360⟩ | ⟨rfl, g363, hgh359⟩)
   ·skip
    have g364 := g362.fix (i := 1) rfl
    have H365 : Sp [HpW rh355 ros356 hh357, Ae b2 50 zState, Bc w Bp] w361 := H353.join (m := [HpW rh355 ros356 hh357]) g362
    have z366 := g364.size
    refine zm (.tuple #[(.agg (rh355.cells).toArray), (J 0)]) Z (zx (.agg (rh355.cells).toArray) Z (zx (J 0) Z (RL.al (cs := zHeap) Tryz.zeroValue47 Z Z Z ?_)))
    intro w367 b368 hb369 hz370 g371 o372
    have H373 := H365.newB g371 o372 (by omega)
    have z374 := g371.size
    refine RL.st (vs := rh355.cells) (cs' := rh355.cells) Tryz.sizeOf47 (H373.ob (i := 0) Z) Z Z Z Z Z Z ?_
    intro w375 hz376 g377 o378
    have H379 : Sp [Ae b368 47 rh355.cells, HpW rh355 ros356 hh357, Ae b2 50 zState, Bc w Bp] w375 := H373.setB (i := 0) rfl g377 o378 rfl
    have z380 := g377.size
    refine za (J 0) Z (RL.nil (thn.n (CW.seq (CW.seq (CW.region (zm (J e11) Z (zg Z (Cd (r := true) Z Z (decide_eq_true (by omega))) (zm bT Z (zo Z (zo Z (zT bT Z (RL.nil (thn.n (Aa Z (CW.seq (CW.region (zg Z (Ce (cs := zState) bd50 Z) (RL.st (vs := zState) (cs' := zState) Tryz.sizeOf50 (H379.ob (i := 2) Z) Z Z Z Z Z Z ?_))))))))))))))))))
    intro w381 hz382 g383 o384
    have H385 : Sp [Ae b368 47 rh355.cells, HpW rh355 ros356 hh357, Ae b2 50 zState, Bc w Bp] w381 := H379.setB (i := 2) rfl g383 o384 rfl
    have z386 := g383.size
    refine za (J 60) Z (RL.nil (thn.n (CW.ret (thn.r (finQ.r (v := (.tuple #[(.agg (zState).toArray), (J 60)])) (Dc Z (Rv.cell Z (Ak (cs := zState) wh50 (H385.ob (i := 2) Z).cl)) (Rv.tmp Z)) ?_)))))
    exact .inr ⟨Z, (H385.fix (i := 3) Z), getState_no1 hrt15⟩
   ·skip
    have H387 := H353.grow g363
    have z388 := g363.size
    refine zm (.tuple #[(.agg (zHeap).toArray), (J 60)]) Z (zx (.agg (zHeap).toArray) Z (zx (J 60) Z (RL.al (cs := zHeap) Tryz.zeroValue47 Z Z Z ?_)))
    intro w389 b390 hb391 hz392 g393 o394
    have H395 := H387.newB g393 o394 (by omega)
    have z396 := g393.size
    refine RL.st (vs := zHeap) (cs' := zHeap) Tryz.sizeOf47 (H395.ob (i := 0) Z) Z Z Z Z Z Z ?_
    intro w397 hz398 g399 o400
    have H401 : Sp [Ae b390 47 zHeap, Ae b2 50 zState, Bc w Bp] w397 := H395.setB (i := 0) rfl g399 o400 rfl
    have z402 := g399.size
    refine za (J 60) Z (RL.nil (thn.n (CW.seq (CW.seq (CW.region (zm (J e11) Z (zg Z (Cd (r := true) Z Z (decide_eq_true (by omega))) (zm bT Z (zo Z (zo Z (zT bT Z (RL.nil (thn.n (Aa Z (CW.seq (CW.region (zg Z (Ce (cs := zState) bd50 Z) (RL.st (vs := zState) (cs' := zState) Tryz.sizeOf50 (H401.ob (i := 1) Z) Z Z Z Z Z Z ?_))))))))))))))))))
    intro w403 hz404 g405 o406
    have H407 : Sp [Ae b390 47 zHeap, Ae b2 50 zState, Bc w Bp] w403 := H401.setB (i := 1) rfl g405 o406 rfl
    have z408 := g405.size
    refine za (J 60) Z (RL.nil (thn.n (CW.ret (thn.r (finQ.r (v := (.tuple #[(.agg (zState).toArray), (J 60)])) (Dc Z (Rv.cell Z (Ak (cs := zState) wh50 (H407.ob (i := 1) Z).cl)) (Rv.tmp Z)) ?_)))))
    exact .inr ⟨Z, (H407.fix (i := 2) Z), getState_no1 hrt15⟩
set_option maxHeartbeats 1000000 in
set_option maxRecDepth 20000 in
theorem mayR14_ (w : World) (e : Entry) : Ret Tryz.prog 105 [(.agg (e.cells).toArray)] w (fun v w' => v = .bool (mayE e) ∧ w.grownBy w' none) := by
  have H0 : Sp [Bc w Bp] w := Bl w
  refine Ret.body Tryz.func105 Z Z Z ?_
  refine CW.seq (CW.region (RL.bx (cs := e.cells) Z Z Z ?_))
  intro w1 b2 hb3 hz4 g5 o6
  have H7 := H0.newB g5 o6 (by omega)
  have z8 := g5.size
  refine za bF Z (RL.nil (thn.n (CW.seq (CW.seq (CW.region (zg Z (fa31_0 (b := ⟨b2, 0, none⟩) Z Z) (zl (J e.num) Bw (H7.ob (i := 0) Z) Z (RL.call Tryz.call168 (within_tumulusref14 _ e.num 1 900000000) Z Z Z ?_))))))))
  rintro _ _ ⟨rfl, rfl⟩
  rcases hb12 : (Ay e.num 1 900000000) with _ | _
  ·skip
   refine zg Z (Ex.not (b := false) Z) (zm bT Z (zo Z (zo Z (zo Z (zo Z (zT bT Z (RL.nil (thn.n (Aa Z (CW.seq (CW.region (za bF Z (RL.nil (thn.n (CW.ret (thn.r (finQ.r (v := bF) (Ax Z Z) ?_)))))))))))))))))
   exact ⟨An (by unfold mayE; first | (simp [hb12]; done) | (simp [op_eq, zOp, hb12]; done) | (simp [op_eq, zOp, hb12]; omega)), (H7.fix (i := 1) Z)⟩
  ·have hw9 := Bd hb12
   refine zg Z (Ex.not (b := true) Z) (zm bF Z (zg Z (fa31_1 (b := ⟨b2, 1, none⟩) Z Z) (zl (J e.view) Bw (H7.ob (i := 0) Z) Z (RL.call Tryz.call168 (within_tumulusref14 _ e.view 0 900000000) Z Z Z ?_))))
   rintro _ _ ⟨rfl, rfl⟩
   rcases hb16 : (Ay e.view 0 900000000) with _ | _
   ·skip
    refine zg Z (Ex.not (b := false) Z) (zF bT Z (RL.nil (thn.n (Aa Z (CW.seq (CW.region (za bF Z (RL.nil (thn.n (CW.ret (thn.r (finQ.r (v := bF) (Ax Z Z) ?_))))))))))))
    exact ⟨An (by unfold mayE; first | (simp [hb12, hb16]; done) | (simp [op_eq, zOp, hb12, hb16]; done) | (simp [op_eq, zOp, hb12, hb16]; omega)), (H7.fix (i := 1) Z)⟩
   ·have hw13 := Bd hb16
    refine zg Z (Ex.not (b := true) Z) (zF bF Z (RL.nil (thn.n (Ad Z (CW.skip (thn.n (CW.seq (CW.seq (CW.region (zg Z (fa31_2 (b := ⟨b2, 2, none⟩) Z Z) (zl (J e.client) Bw (H7.ob (i := 0) Z) Z ?_)))))))))))
    refine zc ((e.client : Int) = (0 : Int)) Z (fun r hr => Bm Z Z hr) (fun h17 => ?_) (fun h17 => ?_)
    ·skip
     refine RL.nil (thn.n (Aa Z (CW.seq (CW.region (zg Z (fa31_3 (b := ⟨b2, 3, none⟩) Z Z) (zl (J e.seq) Bw (H7.ob (i := 0) Z) Z ?_))))))
     refine zc ((e.seq : Int) = (0 : Int)) Z (fun r hr => Bm Z Z hr) (fun h18 => ?_) (fun h18 => ?_)
     ·skip
      refine zm bT Z (zg Z (fa31_4 (b := ⟨b2, 4, none⟩) Z Z) (zg Z (Ag Z (Ak (cs := [(J e.op.kind), (J e.op.h), (J e.op.i), (J e.op.n), (J e.op.k), (J e.op.v), (J e.op.t)]) wh29 ((H7.ob (i := 0) Z).sub 4 7))) (zg Z (Ce (cs := [(J 0), (J 0), (J 0), (J 0), (J 0), (J 0), (J 0)]) bd29 Z) ?_)))
      refine zc ((e.op.kind : Int) = (0 : Int) ∧ (e.op.h : Int) = (0 : Int) ∧ (e.op.i : Int) = (0 : Int) ∧ (e.op.n : Int) = (0 : Int) ∧ (e.op.k : Int) = (0 : Int) ∧ (e.op.v : Int) = (0 : Int) ∧ (e.op.t : Int) = (0 : Int)) Z (fun r hr => Ex.eqS (xs := [(J e.op.kind), (J e.op.h), (J e.op.i), (J e.op.n), (J e.op.k), (J e.op.v), (J e.op.t)]) (ys := [(J 0), (J 0), (J 0), (J 0), (J 0), (J 0), (J 0)]) Tryz.eqGuardType29 (eqT29 hr) Z Z) (fun h19 => ?_) (fun h19 => ?_)
      ·skip
       refine zT bT Z (za bT Z (RL.nil (thn.n (CW.ret (thn.r (finQ.r (v := bT) (Ax Z Z) ?_))))))
       exact ⟨An (by unfold mayE; first | (simp [hb12, hb16, h17, h18, h19]; done) | (simp [op_eq, zOp, hb12, hb16, h17, h18, h19]; done) | (simp [op_eq, zOp, hb12, hb16, h17, h18, h19]; omega)), (H7.fix (i := 1) Z)⟩
      ·skip
       refine zT bF Z (za bF Z (RL.nil (thn.n (CW.ret (thn.r (finQ.r (v := bF) (Ax Z Z) ?_))))))
       exact ⟨An (by unfold mayE; first | (simp [hb12, hb16, h17, h18, h19]; done) | (simp [op_eq, zOp, hb12, hb16, h17, h18, h19]; done) | (simp [op_eq, zOp, hb12, hb16, h17, h18, h19]; omega)), (H7.fix (i := 1) Z)⟩
     ·skip
      refine zm bF Z (zo Z (zo Z (zo Z (zo Z (zF bF Z (za bF Z (RL.nil (thn.n (CW.ret (thn.r (finQ.r (v := bF) (Ax Z Z) ?_)))))))))))
      exact ⟨An (by unfold mayE; first | (simp [hb12, hb16, h17, h18]; done) | (simp [op_eq, zOp, hb12, hb16, h17, h18]; done) | (simp [op_eq, zOp, hb12, hb16, h17, h18]; omega)), (H7.fix (i := 1) Z)⟩
    ·skip
     refine RL.nil (thn.n (Ad Z (CW.skip (thn.n (CW.seq (CW.region (zg Z (fa31_2 (b := ⟨b2, 2, none⟩) Z Z) (zl (J e.client) Bw (H7.ob (i := 0) Z) Z (RL.call Tryz.call168 (within_tumulusref14 _ e.client 1 4) Z Z Z ?_)))))))))
     rintro _ _ ⟨rfl, rfl⟩
     rcases hb23 : (Ay e.client 1 4) with _ | _
     ·skip
      refine zm bF Z (zo Z (zo Z (zo Z (zF bF Z (za bF Z (RL.nil (thn.n (CW.ret (finQ.r (v := bF) (Ax Z Z) ?_)))))))))
      exact ⟨An (by unfold mayE; first | (simp [hb12, hb16, h17, hb23]; done) | (simp [op_eq, zOp, hb12, hb16, h17, hb23]; done) | (simp [op_eq, zOp, hb12, hb16, h17, hb23]; omega)), (H7.fix (i := 1) Z)⟩
     ·have hw20 := Bd hb23
      refine zm bT Z (zg Z (fa31_3 (b := ⟨b2, 3, none⟩) Z Z) (zl (J e.seq) Bw (H7.ob (i := 0) Z) Z (RL.call Tryz.call168 (within_tumulusref14 _ e.seq 1 1000000) Z Z Z ?_)))
      rintro _ _ ⟨rfl, rfl⟩
      rcases hb27 : (Ay e.seq 1 1000000) with _ | _
      ·skip
       refine zT bF Z (za bF Z (RL.nil (thn.n (CW.ret (finQ.r (v := bF) (Ax Z Z) ?_)))))
       exact ⟨An (by unfold mayE; first | (simp [hb12, hb16, h17, hb23, hb27]; done) | (simp [op_eq, zOp, hb12, hb16, h17, hb23, hb27]; done) | (simp [op_eq, zOp, hb12, hb16, h17, hb23, hb27]; omega)), (H7.fix (i := 1) Z)⟩
      ·have hw24 := Bd hb27
       refine zT bT Z (za bT Z (RL.nil (thn.n (CW.ret (finQ.r (v := bT) (Ax Z Z) ?_)))))
       exact ⟨An (by unfold mayE; first | (simp [hb12, hb16, h17, hb23, hb27]; done) | (simp [op_eq, zOp, hb12, hb16, h17, hb23, hb27]; done) | (simp [op_eq, zOp, hb12, hb16, h17, hb23, hb27]; omega)), (H7.fix (i := 1) Z)⟩
set_option maxHeartbeats 400000 in
set_option maxRecDepth 20000 in
theorem follR_ (w : World) (B : Nat) (l : List Entry) (A : Option Addr) (n c : Nat) (fr : Int) (hr : Rd w B 11 A (ents l)) (hB : B ≤ w.heap.size) (hn : n = l.length) (hm : n ≤ 1099511627776) : Ret Tryz.prog 126 [(.slice A n c), (J fr)] w (fun v w' => v = .bool (follB l fr) ∧ w.grownBy w' none) := by
  have H0 : Sp [Bc w Bp] w := Bl w
  refine Ret.body Tryz.func126 Z Z Z ?_
  refine CW.seq (CW.region (za bF Z (RL.nil (thn.n (CW.seq (CW.seq (CW.region (za (J 0) Z (RL.nil (thn.n (CW.block ?_)))))))))))
  refine CW.loop (fun t => (Nat.ble 4 t && Nat.ble t 21)) (fun nL ρ wl => ∃ (k : Nat), ρ 5 = (J (k : Int)) ∧ nL = n - k ∧ Sp [Bc w Bp] wl ∧ k ≤ n ∧ follB (l.take k) fr = true) (n) ?aa0 ?bb0
  case aa0 =>
   exact ⟨0, Z, Z, H0, Nat.zero_le _, Z⟩
  case bb0 =>
   rintro n2 ρ0 w1 ho3 ⟨k, hs0_5, hn0, H4, hk, hf⟩
   obtain ⟨j0, rfl⟩ := ho3.shape1 hs0_5
   clear ho3 hs0_5
   subst hn0
   have z5 := (H4.fix (i := 0) rfl).size
   refine CW.seq (CW.seq (CW.region (zm (J (k : Int)) Z (zm (.slice A n c) Z (zg Z (Ex.len Tryz.underlying22 Z) ?_)))))
   refine zc (((k : Int) : Int) < ((n : Nat) : Int)) Z (fun r hr => Ex.lt Z Z hr) (fun h6 => ?_) (fun h6 => ?_)
   ·skip
    refine RL.nil (thn.n (Aa Z (CW.skip (thn.n (CW.seq (CW.block (CW.seq (CW.region (zm (.slice A n c) Z (zm (J (k : Int)) Z ?_))))))))))
    obtain ⟨e7, he8⟩ : ∃ e, (l)[k]? = some e := ⟨_, List.getElem?_eq_getElem (by omega)⟩
    obtain ⟨ad9, hA10⟩ := Rd.sm (hr.st0 (H4.fix (i := 0) rfl)) (Bt he8)
    have hl11 := Eng.lt_len (Bt he8)
    refine zg Z (Ck (b := (ad9.add (k * 11))) (i := k) Tryz.underlying22 Tryz.sizeOf31 (by rw [← hA10]; rfl) Z (by omega) (by omega) Z) (zg Z (fa31_0 (b := ((ad9.add (k * 11)))) Z Z) (zg Z (Ag Z (Av Bw (Cl.at_ (v := (J e7.num)) (Rd.cl (hr.st0 (H4.fix (i := 0) Z)) hA10 (Bt he8)) (i := 0) Z))) (zg Z (Ci (r := IntKind.i64.wrap (e7.num - 1)) Z Z Z) (zm (J (k : Int)) Z (zg Z (Ci (r := IntKind.i64.wrap ((IntKind.i64.wrap (e7.num - 1)) - (k : Int))) Z Z Z) (zm (J fr) Z ?_))))))
    refine zc ((IntKind.i64.wrap ((IntKind.i64.wrap (e7.num - 1)) - (k : Int)) : Int) ≠ (fr : Int)) Z (fun r hr => Cd Z Z hr) (fun h12 => ?_) (fun h12 => ?_)
    ·skip
     refine RL.nil (thn.n (Aa Z (CW.seq (CW.region (za bF Z (RL.nil (thn.n (CW.ret (inB.r (thn.r (thn.r (inB.r (thn.r (finQ.r (v := bF) (Ax Z Z) ?_))))))))))))))
     exact ⟨An (by unfold follB; rw [allI_stop he8 0]; rw [decide_eq_false_iff_not, Nat.zero_add]; exact h12), (H4.fix (i := 0) Z)⟩
    ·skip
     refine RL.nil (thn.n (Ad Z (CW.skip (inB.n (thn.n (CW.region (zm (J (k : Int)) Z (zg Z (Ex.add (r := (k : Int) + 1) Z Z (Dd (by omega) (by omega))) (za (J ((k : Int) + 1)) Z (RL.nil (thn.n ?_)))))))))))
     refine ⟨(by repeat (first | exact Out.mix _ _ | exact Out.refl _ _ | refine Bf ?_ Z _)), _, ?_, k + 1, Z, Z, H4, by omega, by unfold follB at *; rw [allI_take he8 0, hf]; simp only [Nat.zero_add, Bool.true_and, decide_eq_true_eq]; exact Decidable.not_not.1 h12⟩
     omega
   ·skip
    refine RL.nil (thn.n (Ad Z (CW.exit (thn.x (thn.x (Bh (thn.n (CW.seq (CW.region (za bT Z (RL.nil (thn.n (CW.ret (finQ.r (v := bT) (Ax Z Z) ?_))))))))))))))
    exact ⟨An (by rw [← hf, List.take_of_length_le (by omega)]), (H4.fix (i := 0) Z)⟩
set_option maxHeartbeats 400000 in
set_option maxRecDepth 20000 in
theorem rowR_ (w : World) (B : Nat) (l : List Entry) (A : Option Addr) (n c : Nat) (fr : Int) (hr : Rd w B 11 A (ents l)) (hB : B ≤ w.heap.size) (hn : n = l.length) (hm : n ≤ 1099511627776) : Ret Tryz.prog 91 [(.slice A n c), (J fr)] w (fun v w' => v = .bool (follB l fr) ∧ w.grownBy w' none) := by
  have H0 : Sp [Bc w Bp] w := Bl w
  refine Ret.body Tryz.func91 Z Z Z ?_
  refine CW.seq (CW.region (za bF Z (RL.nil (thn.n (CW.seq (CW.seq (CW.region (za (J 0) Z (RL.nil (thn.n (CW.block ?_)))))))))))
  refine CW.loop (fun t => (Nat.ble 4 t && Nat.ble t 21)) (fun nL ρ wl => ∃ (k : Nat), ρ 5 = (J (k : Int)) ∧ nL = n - k ∧ Sp [Bc w Bp] wl ∧ k ≤ n ∧ follB (l.take k) fr = true) (n) ?aa0 ?bb0
  case aa0 =>
   exact ⟨0, Z, Z, H0, Nat.zero_le _, Z⟩
  case bb0 =>
   rintro n2 ρ0 w1 ho3 ⟨k, hs0_5, hn0, H4, hk, hf⟩
   obtain ⟨j0, rfl⟩ := ho3.shape1 hs0_5
   clear ho3 hs0_5
   subst hn0
   have z5 := (H4.fix (i := 0) rfl).size
   refine CW.seq (CW.seq (CW.region (zm (J (k : Int)) Z (zm (.slice A n c) Z (zg Z (Ex.len Tryz.underlying22 Z) ?_)))))
   refine zc (((k : Int) : Int) < ((n : Nat) : Int)) Z (fun r hr => Ex.lt Z Z hr) (fun h6 => ?_) (fun h6 => ?_)
   ·skip
    refine RL.nil (thn.n (Aa Z (CW.skip (thn.n (CW.seq (CW.block (CW.seq (CW.region (zm (.slice A n c) Z (zm (J (k : Int)) Z ?_))))))))))
    obtain ⟨e7, he8⟩ : ∃ e, (l)[k]? = some e := ⟨_, List.getElem?_eq_getElem (by omega)⟩
    obtain ⟨ad9, hA10⟩ := Rd.sm (hr.st0 (H4.fix (i := 0) rfl)) (Bt he8)
    have hl11 := Eng.lt_len (Bt he8)
    refine zg Z (Ck (b := (ad9.add (k * 11))) (i := k) Tryz.underlying22 Tryz.sizeOf31 (by rw [← hA10]; rfl) Z (by omega) (by omega) Z) (zg Z (fa31_0 (b := ((ad9.add (k * 11)))) Z Z) (zg Z (Ag Z (Av Bw (Cl.at_ (v := (J e7.num)) (Rd.cl (hr.st0 (H4.fix (i := 0) Z)) hA10 (Bt he8)) (i := 0) Z))) (zg Z (Ci (r := IntKind.i64.wrap (e7.num - 1)) Z Z Z) (zm (J (k : Int)) Z (zg Z (Ci (r := IntKind.i64.wrap ((IntKind.i64.wrap (e7.num - 1)) - (k : Int))) Z Z Z) (zm (J fr) Z ?_))))))
    refine zc ((IntKind.i64.wrap ((IntKind.i64.wrap (e7.num - 1)) - (k : Int)) : Int) ≠ (fr : Int)) Z (fun r hr => Cd Z Z hr) (fun h12 => ?_) (fun h12 => ?_)
    ·skip
     refine RL.nil (thn.n (Aa Z (CW.seq (CW.region (za bF Z (RL.nil (thn.n (CW.ret (inB.r (thn.r (thn.r (inB.r (thn.r (finQ.r (v := bF) (Ax Z Z) ?_))))))))))))))
     exact ⟨An (by unfold follB; rw [allI_stop he8 0]; rw [decide_eq_false_iff_not, Nat.zero_add]; exact h12), (H4.fix (i := 0) Z)⟩
    ·skip
     refine RL.nil (thn.n (Ad Z (CW.skip (inB.n (thn.n (CW.region (zm (J (k : Int)) Z (zg Z (Ex.add (r := (k : Int) + 1) Z Z (Dd (by omega) (by omega))) (za (J ((k : Int) + 1)) Z (RL.nil (thn.n ?_)))))))))))
     refine ⟨(by repeat (first | exact Out.mix _ _ | exact Out.refl _ _ | refine Bf ?_ Z _)), _, ?_, k + 1, Z, Z, H4, by omega, by unfold follB at *; rw [allI_take he8 0, hf]; simp only [Nat.zero_add, Bool.true_and, decide_eq_true_eq]; exact Decidable.not_not.1 h12⟩
     omega
   ·skip
    refine RL.nil (thn.n (Ad Z (CW.exit (thn.x (thn.x (Bh (thn.n (CW.seq (CW.region (za bT Z (RL.nil (thn.n (CW.ret (finQ.r (v := bT) (Ax Z Z) ?_))))))))))))))
    exact ⟨An (by rw [← hf, List.take_of_length_le (by omega)]), (H4.fix (i := 0) Z)⟩
end Go.Proofs.YtfokljnhllflbaaGreat
namespace Go.Eng
open Go
theorem ent_eq {a b : Entry} (h : (a.num : Int) = b.num ∧ (a.view : Int) = b.view ∧ (a.client : Int) = b.client ∧ (a.seq : Int) = b.seq ∧ (a.op.kind : Int) = b.op.kind ∧ (a.op.h : Int) = b.op.h ∧ (a.op.i : Int) = b.op.i ∧ (a.op.n : Int) = b.op.n ∧ (a.op.k : Int) = b.op.k ∧ (a.op.v : Int) = b.op.v ∧ (a.op.t : Int) = b.op.t) : a = b := by
  obtain ⟨a1, a2, a3, a4, ⟨a5, a6, a7, a8, a9, a10, a11⟩⟩ := a
  obtain ⟨b1, b2, b3, b4, ⟨b5, b6, b7, b8, b9, b10, b11⟩⟩ := b
  obtain ⟨h1, h2, h3, h4, h5, h6, h7, h8, h9, h10, h11⟩ := h
  simp only at h1 h2 h3 h4 h5 h6 h7 h8 h9 h10 h11
  subst h1 h2 h3 h4 h5 h6 h7 h8 h9 h10 h11
  rfl
theorem take_same {α : Type} {l m : List α} {i : Nat} {a b : α} (h : l.take i = m.take i) (ha : l[i]? = some a) (hb : m[i]? = some b) (e : a = b) : l.take (i + 1) = m.take (i + 1) := by
  rw [List.take_add_one, List.take_add_one, h, ha, hb, e]
theorem ne_at {α : Type} {l m : List α} {i : Nat} {a b : α} (ha : l[i]? = some a) (hb : m[i]? = some b) (e : ¬ a = b) : ¬ l = m := fun h => by
  subst h
  rw [ha] at hb
  injection hb with hb
  exact e hb
end Go.Eng
namespace Go.Eng
open Go
theorem rec_eq {a b : Rec} (h1 : a.kind = b.kind) (h2 : a.view = b.view) (h3 : a.from_ = b.from_) (h4 : a.number = b.number) (h5 : a.image = b.image) (h6 : a.entry = b.entry) (h7 : a.ents = b.ents) : a = b := by
  obtain ⟨a1, a2, a3, a4, a5, a6, a7⟩ := a
  obtain ⟨b1, b2, b3, b4, b5, b6, b7⟩ := b
  simp only at h1 h2 h3 h4 h5 h6 h7
  subst h1 h2 h3 h4 h5 h6 h7
  rfl
theorem kept_eq {a b : Kept} (h1 : a.view = b.view) (h2 : a.normal = b.normal) (h3 : a.base = b.base) (h5 : a.image = b.image) (h7 : a.ents = b.ents) : a = b := by
  obtain ⟨a1, a2, a3, a5, a7⟩ := a
  obtain ⟨b1, b2, b3, b5, b7⟩ := b
  simp only at h1 h2 h3 h5 h7
  subst h1 h2 h3 h5 h7
  rfl
end Go.Eng
namespace Go.Eng
open Go Go.RowKit
section
variable {P : Program} {N : Nat} {Q Q' : Exit → Cy → World → Prop} {ρ : Cy} {w : World} {ops rest : List Oper} {o : Oper} {ty : TypeId} {ps : String} {af : Array Edge} {gu : Option (Nat × Bool)}
variable {x : Operand} {t : TypeId}
theorem Wr.head {w w' : World} {base e k n c i g off : Nat} {xss : List (List Value)} {cs cs' : List Value} (hr : Wr w base e k (some ⟨g, off, none⟩) n c xss) (ho : Ob w g e cs) (hi : i ≤ n) (ho' : Ob w' g e cs') (hl : cs'.length = cs.length) (hc : (cs'.drop off).take (i * k) = (cs.drop off).take (i * k)) : Wr w' base e k (some ⟨g, off, none⟩) i c (xss.take i) := by
  obtain ⟨h1, h2, h3⟩ := hr
  refine ⟨by rw [List.length_take]; omega, fun x hx => h2 x (List.mem_of_mem_take hx), ?_⟩
  rcases h3 with ⟨q, _⟩ | ⟨g1, off1, cs1, q1, q2, q3, q4, q5, q6, q7⟩
  · cases q
  · injection q1 with q1
    injection q1 with q8 q9
    subst q8; subst q9
    have e1 : cs1 = cs := by
      unfold Ob at q3 ho
      rw [q3] at ho
      simp at ho
      exact ho
    subst e1
    refine .inr ⟨g, off, cs', Z, q2, ho', by omega, by omega, q6, ?_⟩
    rw [hc, flat_take i h2, ← q7, List.take_take, Nat.min_eq_left (Nat.mul_le_mul_right k hi)]
end
end Go.Eng
namespace Go.Proofs.YtfokljnhllflbaaGreat
open Go Go.Eng Go.RowKit
set_option maxHeartbeats 2000000 in
set_option maxRecDepth 20000 in
theorem rightK_ (w : World) (B : Nat) (k : Kept) (A : Option Addr) (n c : Nat) (hr : Rd w B 11 A (ents k.ents)) (hB : B ≤ w.heap.size) (hn : n = k.ents.length) (hm : n ≤ 1099511627776) (hc : n ≤ c) (hi : k.image.length ≤ 140737488351232) : Ret Tryz.prog 59 [(.agg ([(J k.view), (J k.normal), (J k.base), (.string (tx k.image)), (.slice A n c)]).toArray)] w (fun v w' => v = .bool (Cj k) ∧ w.grownBy w' none) := by
  have H0 : Sp [Bc w Bp] w := Bl w
  refine Ret.body Tryz.func59 Z Z Z ?_
  refine CW.seq (CW.region (RL.bx (cs := [(J k.view), (J k.normal), (J k.base), (.string (tx k.image)), (.slice A n c)]) Z Z Z ?_))
  intro w1 b2 hb3 hz4 g5 o6
  have H7 := H0.newB g5 o6 (by omega)
  have z8 := g5.size
  refine za bF Z (RL.nil (thn.n (CW.seq (CW.seq (CW.region (zg Z (fa24_0 (b := ⟨b2, 0, none⟩) Z Z) (zl (J k.view) Bw (H7.ob (i := 0) Z) Z ?_)))))))
  refine zc ((k.view : Int) < (0 : Int)) Z (fun r hr => Ex.lt Z Z hr) (fun h9 => ?_) (fun h9 => ?_)
  ·skip
   refine zm bT Z (zo Z (zo Z (zo Z (zT bT Z (zm bT Z (zo Z (zo Z (zo Z (zT bT Z (zm bT Z ?_))))))))))
   refine zo Z (zo Z (zo Z (zo Z (zo Z (zT bT Z (zm bT Z (zo Z (zo Z (zo Z (zT bT Z ?_))))))))))
   refine zm bT Z (zo Z (zo Z (zo Z (zT bT Z (zm bT Z (zo Z (zo Z (zo Z (zo Z (zT bT Z ?_))))))))))
   refine zm bT Z (zo Z (zo Z (zo Z (zo Z (zo Z (zo Z (zT bT Z (RL.nil (thn.n (Aa Z (CW.seq (CW.region (za bF Z (RL.nil (thn.n (CW.ret (thn.r ?_)))))))))))))))))
   refine finQ.r (v := bF) (Ax Z Z) ?_
   exact ⟨An (keptB_no (fun ⟨q1, q2, q3, q4, q5, q6, q7, q8, _, _⟩ => by first | omega)).symm, (H7.fix (i := 1) Z)⟩
  ·skip
   refine zm bF Z (zg Z (fa24_0 (b := ⟨b2, 0, none⟩) Z Z) (zl (J k.view) Bw (H7.ob (i := 0) Z) Z ?_))
   refine zc ((900000000 : Int) < (k.view : Int)) Z (fun r hr => Cv Z Z hr) (fun h10 => ?_) (fun h10 => ?_)
   ·skip
    refine zF bT Z (zm bT Z (zo Z (zo Z (zo Z (zT bT Z (zm bT Z (zo Z (zo Z (zo Z (zo Z ?_))))))))))
    refine zo Z (zT bT Z (zm bT Z (zo Z (zo Z (zo Z (zT bT Z (zm bT Z (zo Z (zo Z (zo Z ?_))))))))))
    refine zT bT Z (zm bT Z (zo Z (zo Z (zo Z (zo Z (zT bT Z (zm bT Z (zo Z (zo Z (zo Z ?_))))))))))
    refine zo Z (zo Z (zo Z (zT bT Z (RL.nil (thn.n (Aa Z (CW.seq (CW.region (za bF Z (RL.nil (thn.n (CW.ret (thn.r (finQ.r (v := bF) (Ax Z Z) ?_))))))))))))))
    exact ⟨An (keptB_no (fun ⟨q1, q2, q3, q4, q5, q6, q7, q8, _, _⟩ => by first | omega)).symm, (H7.fix (i := 1) Z)⟩
   ·skip
    refine zF bF Z (zm bF Z (zg Z (fa24_1 (b := ⟨b2, 1, none⟩) Z Z) (zl (J k.normal) Bw (H7.ob (i := 0) Z) Z ?_)))
    refine zc ((k.normal : Int) < (0 : Int)) Z (fun r hr => Ex.lt Z Z hr) (fun h11 => ?_) (fun h11 => ?_)
    ·skip
     refine zF bT Z (zm bT Z (zo Z (zo Z (zo Z (zo Z (zo Z (zT bT Z (zm bT Z (zo Z (zo Z ?_))))))))))
     refine zo Z (zT bT Z (zm bT Z (zo Z (zo Z (zo Z (zT bT Z (zm bT Z (zo Z (zo Z (zo Z ?_))))))))))
     refine zo Z (zT bT Z (zm bT Z (zo Z (zo Z (zo Z (zo Z (zo Z (zo Z (zT bT Z (RL.nil (thn.n (Aa Z (CW.seq (CW.region ?_))))))))))))))
     refine za bF Z (RL.nil (thn.n (CW.ret (thn.r (finQ.r (v := bF) (Ax Z Z) ?_)))))
     exact ⟨An (keptB_no (fun ⟨q1, q2, q3, q4, q5, q6, q7, q8, _, _⟩ => by first | omega)).symm, (H7.fix (i := 1) Z)⟩
    ·skip
     refine zF bF Z (zm bF Z (zg Z (fa24_1 (b := ⟨b2, 1, none⟩) Z Z) (zl (J k.normal) Bw (H7.ob (i := 0) Z) Z (zg Z (fa24_0 (b := ⟨b2, 0, none⟩) Z Z) (zl (J k.view) Bw (H7.ob (i := 0) Z) Z ?_)))))
     refine zc ((k.view : Int) < (k.normal : Int)) Z (fun r hr => Cv Z Z hr) (fun h12 => ?_) (fun h12 => ?_)
     ·skip
      refine zF bT Z (zm bT Z (zo Z (zo Z (zo Z (zT bT Z (zm bT Z (zo Z (zo Z (zo Z (zT bT Z ?_))))))))))
      refine zm bT Z (zo Z (zo Z (zo Z (zo Z (zT bT Z (zm bT Z (zo Z (zo Z (zo Z (zo Z ?_))))))))))
      refine zo Z (zo Z (zT bT Z (RL.nil (thn.n (Aa Z (CW.seq (CW.region (za bF Z (RL.nil (thn.n (CW.ret (thn.r (finQ.r (v := bF) (Ax Z Z) ?_)))))))))))))
      exact ⟨An (keptB_no (fun ⟨q1, q2, q3, q4, q5, q6, q7, q8, _, _⟩ => by first | omega)).symm, (H7.fix (i := 1) Z)⟩
     ·skip
      refine zF bF Z (zm bF Z (zg Z (fa24_2 (b := ⟨b2, 2, none⟩) Z Z) (zl (J k.base) Bw (H7.ob (i := 0) Z) Z ?_)))
      refine zc ((k.base : Int) < (0 : Int)) Z (fun r hr => Ex.lt Z Z hr) (fun h13 => ?_) (fun h13 => ?_)
      ·skip
       refine zF bT Z (zm bT Z (zo Z (zo Z (zo Z (zT bT Z (zm bT Z (zo Z (zo Z (zo Z (zo Z ?_))))))))))
       refine zT bT Z (zm bT Z (zo Z (zo Z (zo Z (zo Z (zo Z (zo Z (zT bT Z (RL.nil (thn.n (Aa Z (CW.seq (CW.region (za bF Z ?_))))))))))))))
       refine RL.nil (thn.n (CW.ret (thn.r (finQ.r (v := bF) (Ax Z Z) ?_))))
       exact ⟨An (keptB_no (fun ⟨q1, q2, q3, q4, q5, q6, q7, q8, _, _⟩ => by first | omega)).symm, (H7.fix (i := 1) Z)⟩
      ·skip
       refine zF bF Z (zm bF Z (zg Z (fa24_2 (b := ⟨b2, 2, none⟩) Z Z) (zl (J k.base) Bw (H7.ob (i := 0) Z) Z ?_)))
       refine zc ((900000000 : Int) < (k.base : Int)) Z (fun r hr => Cv Z Z hr) (fun h14 => ?_) (fun h14 => ?_)
       ·skip
        refine zF bT Z (zm bT Z (zo Z (zo Z (zo Z (zo Z (zT bT Z (zm bT Z (zo Z (zo Z (zo Z ?_))))))))))
        refine zo Z (zo Z (zo Z (zT bT Z (RL.nil (thn.n (Aa Z (CW.seq (CW.region (za bF Z (RL.nil (thn.n (CW.ret (thn.r (finQ.r (v := bF) (Ax Z Z) ?_))))))))))))))
        exact ⟨An (keptB_no (fun ⟨q1, q2, q3, q4, q5, q6, q7, q8, _, _⟩ => by first | omega)).symm, (H7.fix (i := 1) Z)⟩
       ·skip
        refine zF bF Z (zm bF Z (zg Z (Df (b := ⟨b2, 4, none⟩) Z Z) (zl (.slice A n c) lo22 (H7.ob (i := 0) Z) Z (zg Z (Ex.len Tryz.underlying22 Z) ?_))))
        refine zc ((4000 : Int) < ((n : Nat) : Int)) Z (fun r hr => Cv Z Z hr) (fun h15 => ?_) (fun h15 => ?_)
        ·skip
         refine zF bT Z (zm bT Z (zo Z (zo Z (zo Z (zo Z (zo Z (zo Z (zT bT Z (RL.nil (thn.n (Aa Z (CW.seq (CW.region (za bF Z ?_))))))))))))))
         refine RL.nil (thn.n (CW.ret (thn.r (finQ.r (v := bF) (Ax Z Z) ?_))))
         exact ⟨An (keptB_no (fun ⟨q1, q2, q3, q4, q5, q6, q7, q8, _, _⟩ => by first | omega)).symm, (H7.fix (i := 1) Z)⟩
        ·skip
         refine zF bF Z (zm bF Z (zg Z (Df (b := ⟨b2, 4, none⟩) Z Z) (zl (.slice A n c) lo22 (H7.ob (i := 0) Z) Z (zg Z (fa24_2 (b := ⟨b2, 2, none⟩) Z Z) (zl (J k.base) Bw (H7.ob (i := 0) Z) Z (RL.call Tryz.call126 (follR_ _ _ k.ents A n c k.base (hr.st0 (H7.fix (i := 1) Z)) (by omega) (by first | rfl | assumption | omega) (by omega)) Z Z Z ?_))))))
         rintro _ w16 ⟨rfl, g17⟩
         have H18 := H7.grow g17
         have z19 := g17.size
         rcases hb20 : (follB k.ents k.base) with _ | _
         ·skip
          refine zg Z (Ex.not (b := false) Z) (zF bT Z (RL.nil (thn.n (Aa Z (CW.seq (CW.region (za bF Z (RL.nil (thn.n (CW.ret (thn.r (finQ.r (v := bF) (Ax Z Z) ?_))))))))))))
          exact ⟨An (keptB_no (fun ⟨q1, q2, q3, q4, q5, q6, q7, q8, _, _⟩ => by first | omega | (rw [hb20] at q8; cases q8))).symm, (H18.fix (i := 1) rfl)⟩
         ·skip
          refine zg Z (Ex.not (b := true) Z) (zF bF Z (RL.nil (thn.n (Ad Z (CW.skip (thn.n (CW.seq (CW.seq (CW.region (za (J 0) Z (RL.nil (thn.n (CW.block ?_)))))))))))))
          refine CW.loop (fun t => (Nat.ble 2 t && Nat.ble t 4) || (Nat.ble 51 t && Nat.ble t 88)) (fun nL ρ wl => ∃ (i : Nat), ρ 3 = (J (i : Int)) ∧ nL = n - i ∧ Sp [Ae b2 24 [(J k.view), (J k.normal), (J k.base), (.string (tx k.image)), (.slice A n c)], Bc w Bp] wl ∧ i ≤ n ∧ ∀ (j : Nat) (x : Entry), j < i → k.ents[j]? = some x → entOK k.normal k.ents j x) (n) ?aa0 ?bb0
          case aa0 =>
           exact ⟨0, Z, Z, H18, Nat.zero_le _, fun j x hj => by omega⟩
          case bb0 =>
           rintro n22 ρ0 w21 ho23 ⟨i, hs0_3, hn0, H24, hi_, hO⟩
           obtain ⟨j0, rfl⟩ := ho23.shape1 hs0_3
           clear ho23 hs0_3
           subst hn0
           have z25 := (H24.fix (i := 1) rfl).size
           refine CW.seq (CW.seq (CW.region (zm (J (i : Int)) Z (zg Z (Df (b := ⟨b2, 4, none⟩) Z Z) (zl (.slice A n c) lo22 (H24.ob (i := 0) Z) Z (zg Z (Ex.len Tryz.underlying22 Z) ?_))))))
           refine zc (((i : Int) : Int) < ((n : Nat) : Int)) Z (fun r hr => Ex.lt Z Z hr) (fun h26 => ?_) (fun h26 => ?_)
           ·skip
            refine RL.nil (thn.n (Aa Z (CW.skip (thn.n (CW.seq (CW.block (CW.seq (CW.region (zg Z (Df (b := ⟨b2, 4, none⟩) Z Z) (zl (.slice A n c) lo22 (H24.ob (i := 0) Z) Z (zm (J (i : Int)) Z ?_)))))))))))
            obtain ⟨e27, he28⟩ : ∃ e, (k.ents)[i]? = some e := ⟨_, List.getElem?_eq_getElem (by omega)⟩
            obtain ⟨ad29, hA30⟩ := Rd.sm (hr.st0 (H24.fix (i := 1) rfl)) (Bt he28)
            have hl31 := Eng.lt_len (Bt he28)
            refine zg Z (Ck (b := (ad29.add (i * 11))) (i := i) Tryz.underlying22 Tryz.sizeOf31 (by rw [← hA30]; rfl) Z (by omega) (by omega) Z) (zg Z (Ag Z (Ak (cs := e27.cells) wh31 (Rd.cl (hr.st0 (H24.fix (i := 1) Z)) hA30 (Bt he28)))) (RL.al (cs := [(J 0), (J 0), (J 0), (J 0), (J 0), (J 0), (J 0), (J 0), (J 0), (J 0), (J 0)]) Tryz.zeroValue31 Z Z Z ?_))
            intro w32 b33 hb34 hz35 g36 o37
            have H38 := H24.newB g36 o37 (by omega)
            have z39 := g36.size
            refine RL.st (vs := e27.cells) (cs' := e27.cells) Tryz.sizeOf31 (H38.ob (i := 0) Z) Z Z Z Z Z Z ?_
            intro w40 hz41 g42 o43
            have H44 : Sp [Ae b33 31 e27.cells, Ae b2 24 [(J k.view), (J k.normal), (J k.base), (.string (tx k.image)), (.slice A n c)], Bc w Bp] w40 := H38.setB (i := 0) rfl g42 o43 rfl
            have z45 := g42.size
            refine RL.nil (thn.n (CW.seq (Di (fun wq => Sp [Ae b33 31 e27.cells, Ae b2 24 [(J k.view), (J k.normal), (J k.base), (.string (tx k.image)), (.slice A n c)], Bc w Bp] wq) Tryz.mixed Z ?_)))
            intro w46 g47
            have H48 := H44.grow g47
            have z49 := g47.size
            refine zr 0 1 Z (by kernel_rfl) H48 (fun wq hq => Ag Z (Ak (cs := e27.cells) wh31 (hq.ob (i := 0) Z).cl)) (RA.one (i := 1) (by kernel_rfl) ?_)
            refine ⟨_, 3, Z, by kernel_rfl, ?_⟩
            refine RL.call Tryz.call105 (mayR14_ _ e27) Z Z Z ?_
            rintro _ w50 ⟨rfl, g51⟩
            have H52 := H48.grow g51
            have z53 := g51.size
            rcases hb54 : (mayE e27) with _ | _
            ·skip
             refine RL.nil ?_
             refine ⟨H52, ?_⟩
             refine zr 2 7 Z (by kernel_rfl) H52 (fun wq hq => Ex.not (b := false) Z) (zr 3 15 Z (by kernel_rfl) H52 (fun wq hq => As (v := bT) Z) (zq 4 31 Z (by kernel_rfl) H52 (zq 6 95 Z (by kernel_rfl) H52 (zq 5 127 Z (by kernel_rfl) H52 (zq 7 255 Z (by kernel_rfl) H52 (zq 8 511 Z (by kernel_rfl) H52 (zr 9 1023 Z (by kernel_rfl) H52 (fun wq hq => Bs (v := bT) Z Z) (zr 10 2047 Z (by kernel_rfl) H52 (fun wq hq => As (v := bT) Z) (zq 11 4095 Z (by kernel_rfl) H52 (zq 12 8191 Z (by kernel_rfl) H52 ?_))))))))))
             refine zq 13 16383 Z (by kernel_rfl) H52 (zq 14 32767 Z (by kernel_rfl) H52 (zq 16 98303 Z (by kernel_rfl) H52 (zq 17 229375 Z (by kernel_rfl) H52 (zq 21 2326527 Z (by kernel_rfl) H52 (zq 15 2359295 Z (by kernel_rfl) H52 (zq 18 2621439 Z (by kernel_rfl) H52 (zq 19 3145727 Z (by kernel_rfl) H52 (zq 20 4194303 Z (by kernel_rfl) H52 (zq 22 8388607 Z (by kernel_rfl) H52 (zq 23 16777215 Z (by kernel_rfl) H52 ?_))))))))))
             refine zq 24 33554431 Z (by kernel_rfl) H52 (zr 25 67108863 Z (by kernel_rfl) H52 (fun wq hq => Bs (v := bT) Z Z) (Bi (by kernel_rfl) (thn.n (Aa Z (CW.seq (CW.region (za bF Z (RL.nil (thn.n (CW.ret (inB.r (thn.r (thn.r (inB.r (thn.r (finQ.r (v := bF) (Ax Z Z) ?_))))))))))))))))
             have hbd := entsB_bad (nm := k.normal) he28 (fun ⟨q1, q2, q3⟩ => by first | (rw [hb54] at q1; cases q1; done) | omega)
             exact ⟨An (keptB_no (fun ⟨_, _, _, _, _, _, _, _, q9, _⟩ => by rw [hbd] at q9; cases q9)).symm, (H52.fix (i := 2) rfl)⟩
            ·skip
             refine RL.nil ?_
             refine ⟨H52, ?_⟩
             refine zr 2 7 Z (by kernel_rfl) H52 (fun wq hq => Ex.not (b := true) Z) (zr 3 15 Z (by kernel_rfl) H52 (fun wq hq => As (v := bF) Z) (zr 4 31 Z (by kernel_rfl) H52 (fun wq hq => fa31_1 (b := ⟨b33, 1, none⟩) Z Z) (zr 6 95 Z (by kernel_rfl) H52 (fun wq hq => fa24_1 (b := ⟨b2, 1, none⟩) Z Z) (zr 5 127 Z (by kernel_rfl) H52 (fun wq hq => Ag Z (Av Bw (Ob.cell (v := (J e27.view)) (hq.ob (i := 0) Z) Z))) (zr 7 255 Z (by kernel_rfl) H52 (fun wq hq => Ag Z (Av Bw (Ob.cell (v := (J k.normal)) (hq.ob (i := 1) Z) Z))) ?_)))))
             refine zb 8 511 ((k.normal : Int) < (e27.view : Int)) Z (by kernel_rfl) H52 (fun r hr wq hq => Cv Z Z hr) (fun h55 => ?_) (fun h55 => ?_)
             ·skip
              refine zr 9 1023 Z (by kernel_rfl) H52 (fun wq hq => Bo (v := bT) Z Z) (zr 10 2047 Z (by kernel_rfl) H52 (fun wq hq => As (v := bT) Z) (zq 11 4095 Z (by kernel_rfl) H52 (zq 12 8191 Z (by kernel_rfl) H52 (zq 13 16383 Z (by kernel_rfl) H52 (zq 14 32767 Z (by kernel_rfl) H52 (zq 16 98303 Z (by kernel_rfl) H52 (zq 17 229375 Z (by kernel_rfl) H52 (zq 21 2326527 Z (by kernel_rfl) H52 (zq 15 2359295 Z (by kernel_rfl) H52 (zq 18 2621439 Z (by kernel_rfl) H52 ?_))))))))))
              refine zq 19 3145727 Z (by kernel_rfl) H52 (zq 20 4194303 Z (by kernel_rfl) H52 (zq 22 8388607 Z (by kernel_rfl) H52 (zq 23 16777215 Z (by kernel_rfl) H52 (zq 24 33554431 Z (by kernel_rfl) H52 (zr 25 67108863 Z (by kernel_rfl) H52 (fun wq hq => Bs (v := bT) Z Z) (Bi (by kernel_rfl) (thn.n (Aa Z (CW.seq (CW.region (za bF Z (RL.nil (thn.n (CW.ret (inB.r (thn.r (thn.r (inB.r (thn.r ?_)))))))))))))))))))
              refine finQ.r (v := bF) (Ax Z Z) ?_
              have hbd := entsB_bad (nm := k.normal) he28 (fun ⟨q1, q2, q3⟩ => by first | (rw [hb54] at q1; cases q1; done) | omega)
              exact ⟨An (keptB_no (fun ⟨_, _, _, _, _, _, _, _, q9, _⟩ => by rw [hbd] at q9; cases q9)).symm, (H52.fix (i := 2) rfl)⟩
             ·skip
              refine zr 9 1023 Z (by kernel_rfl) H52 (fun wq hq => Bo (v := bF) Z Z) (zr 10 2047 Z (by kernel_rfl) H52 (fun wq hq => As (v := bF) Z) (zr 11 4095 Z (by kernel_rfl) H52 (fun wq hq => As (v := (J (i : Int))) Z) ?_))
              refine zb 12 8191 ((0 : Int) < ((i : Int) : Int)) Z (by kernel_rfl) H52 (fun r hr wq hq => Cv Z Z hr) (fun h56 => ?_) (fun h56 => ?_)
              ·skip
               refine zr 13 16383 Z (by kernel_rfl) H52 (fun wq hq => As (v := bT) Z) (zr 14 32767 Z (by kernel_rfl) H52 (fun wq hq => Df (b := ⟨b2, 4, none⟩) Z Z) (zr 16 98303 Z (by kernel_rfl) H52 (fun wq hq => As (v := (J (i : Int))) Z) (zr 17 229375 Z (by kernel_rfl) H52 (fun wq hq => Ci (r := ((i - 1 : Nat) : Int)) Z Z (by rw [Dd (by omega) (by omega)]; omega)) (zr 21 2326527 Z (by kernel_rfl) H52 (fun wq hq => fa31_1 (b := ⟨b33, 1, none⟩) Z Z) (zr 15 2359295 Z (by kernel_rfl) H52 (fun wq hq => Ag Z (Av lo22 (Ob.cell (v := (.slice A n c)) (hq.ob (i := 1) Z) Z))) ?_)))))
               obtain ⟨e57, he58⟩ : ∃ e, (k.ents)[(i - 1)]? = some e := ⟨_, List.getElem?_eq_getElem (by omega)⟩
               obtain ⟨ad59, hA60⟩ := Rd.sm (hr.st0 (H52.fix (i := 2) rfl)) (Bt he58)
               have hl61 := Eng.lt_len (Bt he58)
               refine zr 18 2621439 Z (by kernel_rfl) H52 (fun wq hq => Ck (b := (ad59.add ((i - 1) * 11))) (i := (i - 1)) Tryz.underlying22 Tryz.sizeOf31 (by rw [← hA60]; rfl) Z (by omega) (by omega) Z) (zr 19 3145727 Z (by kernel_rfl) H52 (fun wq hq => fa31_1 (b := (((ad59.add ((i - 1) * 11))).add 1)) Z Z) (zr 20 4194303 Z (by kernel_rfl) H52 (fun wq hq => Ag Z (Av Bw (Cl.at_ (v := (J e57.view)) (Rd.cl (hr.st0 (hq.fix (i := 2) Z)) hA60 (Bt he58)) (i := 1) Z))) (zr 22 8388607 Z (by kernel_rfl) H52 (fun wq hq => Ag Z (Av Bw (Ob.cell (v := (J e27.view)) (hq.ob (i := 0) Z) Z))) ?_)))
               refine zb 23 16777215 ((e27.view : Int) < (e57.view : Int)) Z (by kernel_rfl) H52 (fun r hr wq hq => Cv Z Z hr) (fun h62 => ?_) (fun h62 => ?_)
               ·skip
                refine zr 24 33554431 Z (by kernel_rfl) H52 (fun wq hq => Bs (v := bT) Z Z) (zr 25 67108863 Z (by kernel_rfl) H52 (fun wq hq => Bo (v := bT) Z Z) (Bi (by kernel_rfl) (thn.n (Aa Z (CW.seq (CW.region (za bF Z (RL.nil (thn.n (CW.ret (inB.r (thn.r (thn.r (inB.r (thn.r (finQ.r (v := bF) (Ax Z Z) ?_))))))))))))))))
                have hbd := entsB_bad (nm := k.normal) he28 (fun ⟨q1, q2, q3⟩ => by first | (rw [hb54] at q1; cases q1; done) | omega | (have q4 := q3 e57 (by omega) he58; omega))
                exact ⟨An (keptB_no (fun ⟨_, _, _, _, _, _, _, _, q9, _⟩ => by rw [hbd] at q9; cases q9)).symm, (H52.fix (i := 2) rfl)⟩
               ·skip
                refine zr 24 33554431 Z (by kernel_rfl) H52 (fun wq hq => Bs (v := bF) Z Z) (zr 25 67108863 Z (by kernel_rfl) H52 (fun wq hq => Bo (v := bF) Z Z) (Bi (by kernel_rfl) (thn.n (Ad Z (CW.skip (inB.n (thn.n (CW.region (zm (J (i : Int)) Z (zg Z (Ex.add (r := (i : Int) + 1) Z Z (Dd (by omega) (by omega))) (za (J ((i : Int) + 1)) Z (RL.nil (thn.n ?_)))))))))))))
                refine ⟨(by repeat (first | exact Out.mix _ _ | exact Out.refl _ _ | refine Bf ?_ rfl _ | refine Ch ?_ (by intro t ht; simp only [Bool.or_eq_false_iff, Bool.and_eq_false_iff, ble_f, beq_f] at ht ⊢; omega))), _, ?_, i + 1, rfl, rfl, (H52.sel [1, 2] (by decide) rfl), by omega, upto_go hO he28 ⟨hb54, by omega, (fun y _ hy => by rw [he58] at hy; injection hy with hy; subst hy; omega)⟩⟩
                omega
              ·skip
               refine zr 13 16383 Z (by kernel_rfl) H52 (fun wq hq => As (v := bF) Z) (zq 14 32767 Z (by kernel_rfl) H52 (zq 16 98303 Z (by kernel_rfl) H52 (zq 17 229375 Z (by kernel_rfl) H52 (zq 21 2326527 Z (by kernel_rfl) H52 (zq 15 2359295 Z (by kernel_rfl) H52 (zq 18 2621439 Z (by kernel_rfl) H52 (zq 19 3145727 Z (by kernel_rfl) H52 (zq 20 4194303 Z (by kernel_rfl) H52 (zq 22 8388607 Z (by kernel_rfl) H52 (zq 23 16777215 Z (by kernel_rfl) H52 ?_))))))))))
               refine zr 24 33554431 Z (by kernel_rfl) H52 (fun wq hq => Bo (v := bF) Z Z) (zr 25 67108863 Z (by kernel_rfl) H52 (fun wq hq => Bo (v := bF) Z Z) (Bi (by kernel_rfl) (thn.n (Ad Z (CW.skip (inB.n (thn.n (CW.region (zm (J (i : Int)) Z (zg Z (Ex.add (r := (i : Int) + 1) Z Z (Dd (by omega) (by omega))) (za (J ((i : Int) + 1)) Z (RL.nil (thn.n ?_)))))))))))))
               refine ⟨(by repeat (first | exact Out.mix _ _ | exact Out.refl _ _ | refine Bf ?_ Z _ | refine Ch ?_ (by intro t ht; simp only [Bool.or_eq_false_iff, Bool.and_eq_false_iff, ble_f, beq_f] at ht ⊢; omega))), _, ?_, i + 1, Z, Z, (H52.sel [1, 2] (by decide) Z), by omega, upto_go hO he28 ⟨hb54, by omega, (fun y hi0 hy => by omega)⟩⟩
               omega
           ·skip
            refine RL.nil (thn.n (Ad Z (CW.exit (thn.x (thn.x (Bh (thn.n (CW.seq (CW.region (zg Z (fa24_3 (b := ⟨b2, 3, none⟩) Z Z) (zl (.string (tx k.image)) lo9 (H24.ob (i := 0) Z) Z (RL.s2bT (l := k.image) Tryz.underlying9 Tryz.underlying97 Tryz.underlying5 Z Z Z ?_))))))))))))
            intro w63 b65 c66 hb67 hz68 g69 rd70 hc71
            have H72 := H24.grow g69
            have z73 := g69.size
            refine RL.call Tryz.call127 (getStateR_ _ _ k.image (some ⟨b65, 0, none⟩) k.image.length c66 ⟨rd70, by first | rfl | omega, by omega, by omega⟩ (by omega)) Z Z Z ?_
            rintro _ w80 (⟨rs74, ros75, ss76, rfl, g81, hgs77, hsb79⟩ | ⟨rfl, g82, hgs78⟩)
            ·skip
             have g83 := g81.fix (i := 1) rfl
             have H84 : Sp [StW rs74 ros75 ss76, Ae b2 24 [(J k.view), (J k.normal), (J k.base), (.string (tx k.image)), (.slice A n c)], Bc w Bp] w80 := H72.join (m := [StW rs74 ros75 ss76]) g81
             have z85 := g83.size
             refine zm (.tuple #[(.agg (rs74.cells).toArray), (J 0)]) Z (zx (.agg (rs74.cells).toArray) Z (zx (J 0) Z (RL.al (cs := zState) Tryz.zeroValue50 Z Z Z ?_)))
             intro w86 b87 hb88 hz89 g90 o91
             have H92 := H84.newB g90 o91 (by omega)
             have z93 := g90.size
             refine RL.st (vs := rs74.cells) (cs' := rs74.cells) Tryz.sizeOf50 (H92.ob (i := 0) Z) Z Z Z Z Z Z ?_
             intro w94 hz95 g96 o97
             have H98 : Sp [Ae b87 50 rs74.cells, StW rs74 ros75 ss76, Ae b2 24 [(J k.view), (J k.normal), (J k.base), (.string (tx k.image)), (.slice A n c)], Bc w Bp] w94 := H92.setB (i := 0) rfl g96 o97 rfl
             have z99 := g96.size
             refine za (J 0) Z (RL.nil (thn.n (CW.seq (CW.region (zm (J 0) Z (zg Z (Bm (r := true) Z Z (by decide)) (za bT Z (RL.nil (thn.n (CW.ret (finQ.r (v := bT) (Ax Z Z) ?_)))))))))))
             exact ⟨An (keptB_yes ⟨by omega, by omega, by omega, by omega, by omega, by omega, by omega, hb20, entsB_of (n := i) (by omega) hO, by rw [hgs77]; rfl⟩).symm, (H98.fix (i := 3) Z)⟩
            ·skip
             have H100 := H72.grow g82
             have z101 := g82.size
             refine zm (.tuple #[(.agg (zState).toArray), (J 60)]) Z (zx (.agg (zState).toArray) Z (zx (J 60) Z (RL.al (cs := zState) Tryz.zeroValue50 Z Z Z ?_)))
             intro w102 b103 hb104 hz105 g106 o107
             have H108 := H100.newB g106 o107 (by omega)
             have z109 := g106.size
             refine RL.st (vs := zState) (cs' := zState) Tryz.sizeOf50 (H108.ob (i := 0) Z) Z Z Z Z Z Z ?_
             intro w110 hz111 g112 o113
             have H114 : Sp [Ae b103 50 zState, Ae b2 24 [(J k.view), (J k.normal), (J k.base), (.string (tx k.image)), (.slice A n c)], Bc w Bp] w110 := H108.setB (i := 0) rfl g112 o113 rfl
             have z115 := g112.size
             refine za (J 60) Z (RL.nil (thn.n (CW.seq (CW.region (zm (J 60) Z (zg Z (Bm (r := false) Z Z (by decide)) (za bF Z (RL.nil (thn.n (CW.ret (finQ.r (v := bF) (Ax Z Z) ?_)))))))))))
             exact ⟨An (keptB_no (fun ⟨_, _, _, _, _, _, _, _, _, q10⟩ => by rw [hgs78] at q10; cases q10)).symm, (H114.fix (i := 2) rfl)⟩
set_option maxHeartbeats 400000 in
set_option maxRecDepth 20000 in
theorem lastR_ (w : World) (k : Kept) (A : Option Addr) (n c : Nat) (hn : n = k.ents.length) (hk : Cj k = true) : Ret Tryz.prog 60 [(.agg ([(J k.view), (J k.normal), (J k.base), (.string (tx k.image)), (.slice A n c)]).toArray)] w (fun v w' => v = .int .i64 (Dm k) ∧ w.grownBy w' none) := by
  have hkt := keptB_t hk
  have H0 : Sp [Bc w Bp] w := Bl w
  refine Ret.body Tryz.func60 Z Z Z ?_
  refine CW.seq (CW.region (RL.bx (cs := [(J k.view), (J k.normal), (J k.base), (.string (tx k.image)), (.slice A n c)]) Z Z Z ?_))
  intro w1 b2 hb3 hz4 g5 o6
  have H7 := H0.newB g5 o6 (by omega)
  have z8 := g5.size
  refine za (J 0) Z (RL.nil (thn.n (CW.seq (CW.region (zg Z (fa24_2 (b := ⟨b2, 2, none⟩) Z Z) (zl (J k.base) Bw (H7.ob (i := 0) Z) Z (zg Z (Df (b := ⟨b2, 4, none⟩) Z Z) (zl (.slice A n c) lo22 (H7.ob (i := 0) Z) Z (zg Z (Ex.len Tryz.underlying22 Z) (zg Z (Ex.add (r := k.base + (n : Nat)) Z Z (Dd (by omega) (by omega))) (za (J (k.base + (n : Nat))) Z (RL.nil (thn.n (CW.ret (finQ.r (v := (J (k.base + (n : Nat)))) (Ax Z Z) ?_)))))))))))))))
  exact ⟨Bb (by unfold Dm; rw [hn]), (H7.fix (i := 1) Z)⟩
set_option maxHeartbeats 400000 in
set_option maxRecDepth 20000 in
theorem entSameR_ (w : World) (B : Nat) (l m : List Entry) (A A2 : Option Addr) (n c n2 c2 : Nat) (hr : Rd w B 11 A (ents l)) (hn : n = l.length) (hr2 : Rd w B 11 A2 (ents m)) (hn2 : n2 = m.length) (hm : n ≤ 1099511627776) : Ret Tryz.prog 31 [(.slice A n c), (.slice A2 n2 c2)] w (fun v w' => v = .bool (decide (l = m)) ∧ w.grownBy w' none) := by
  have H0 : Sp [Bc w Bp] w := Bl w
  refine Ret.body Tryz.func31 Z Z Z ?_
  refine CW.seq (CW.region (za bF Z (RL.nil (thn.n (CW.seq (CW.seq (CW.region (zm (.slice A n c) Z (zg Z (Ex.len Tryz.underlying22 Z) (zm (.slice A2 n2 c2) Z (zg Z (Ex.len Tryz.underlying22 Z) ?_)))))))))))
  refine zc (((n : Nat) : Int) ≠ ((n2 : Nat) : Int)) Z (fun r hr => Cd Z Z hr) (fun h1 => ?_) (fun h1 => ?_)
  ·skip
   refine RL.nil (thn.n (Aa Z (CW.seq (CW.region (za bF Z (RL.nil (thn.n (CW.ret (thn.r (finQ.r (v := bF) (Ax Z Z) ?_))))))))))
   exact ⟨An (by symm; rw [decide_eq_false_iff_not]; intro h; rw [h] at hn; omega), (H0.fix (i := 0) Z)⟩
  ·skip
   refine RL.nil (thn.n (Ad Z (CW.skip (thn.n (CW.seq (CW.seq (CW.region (za (J 0) Z (RL.nil (thn.n (CW.block ?_)))))))))))
   refine CW.loop (fun t => (Nat.ble 4 t && Nat.ble t 5) || (Nat.ble 11 t && Nat.ble t 25)) (fun nL ρ wl => ∃ (i : Nat), ρ 5 = (J (i : Int)) ∧ nL = n - i ∧ Sp [Bc w Bp] wl ∧ i ≤ n ∧ l.take i = m.take i) (n) ?aa0 ?bb0
   case aa0 =>
    exact ⟨0, Z, Z, H0, Nat.zero_le _, Z⟩
   case bb0 =>
    rintro n3 ρ0 w2 ho4 ⟨i, hs0_5, hn0, H5, hi, htk⟩
    obtain ⟨j0, rfl⟩ := ho4.shape1 hs0_5
    clear ho4 hs0_5
    subst hn0
    have z6 := (H5.fix (i := 0) rfl).size
    refine CW.seq (CW.seq (CW.region (zm (J (i : Int)) Z (zm (.slice A n c) Z (zg Z (Ex.len Tryz.underlying22 Z) ?_)))))
    refine zc (((i : Int) : Int) < ((n : Nat) : Int)) Z (fun r hr => Ex.lt Z Z hr) (fun h7 => ?_) (fun h7 => ?_)
    ·skip
     refine RL.nil (thn.n (Aa Z (CW.skip (thn.n (CW.seq (CW.block (CW.seq (CW.quiet (fun wq => World.grownBy w2 wq none) Tryz.mixed (by kernel_rfl) ⟨Z, Z, Z, Nat.le_refl _, fun _ _ _ => rfl⟩ (QL.go Z Z Z (fun wq gq => As (v := (.slice A n c)) Z) (QL.go Z Z Z (fun wq gq => As (v := (J (i : Int))) Z) ?_))))))))))
     obtain ⟨e8, he9⟩ : ∃ e, (l)[i]? = some e := ⟨_, List.getElem?_eq_getElem (by omega)⟩
     obtain ⟨ad10, hA11⟩ := Rd.sm (hr.st0 (H5.fix (i := 0) rfl)) (Bt he9)
     have hl12 := Eng.lt_len (Bt he9)
     refine QL.go Z Z Z (fun wq gq => Ck (b := (ad10.add (i * 11))) (i := i) Tryz.underlying22 Tryz.sizeOf31 (by rw [← hA11]; rfl) Z (by omega) (by omega) Z) (QL.go Z Z Z (fun wq gq => Ag Z (Ak (cs := e8.cells) wh31 (Rd.cl (hr.st0 ((H5.grow gq).fix (i := 0) Z)) hA11 (Bt he9)))) (QL.go Z Z Z (fun wq gq => As (v := (.slice A2 n2 c2)) Z) (QL.go Z Z Z (fun wq gq => As (v := (J (i : Int))) Z) ?_)))
     obtain ⟨e13, he14⟩ : ∃ e, (m)[i]? = some e := ⟨_, List.getElem?_eq_getElem (by omega)⟩
     obtain ⟨ad15, hA16⟩ := Rd.sm (hr2.st0 (H5.fix (i := 0) rfl)) (Bt he14)
     have hl17 := Eng.lt_len (Bt he14)
     refine QL.go Z Z Z (fun wq gq => Ck (b := (ad15.add (i * 11))) (i := i) Tryz.underlying22 Tryz.sizeOf31 (by rw [← hA16]; rfl) Z (by omega) (by omega) Z) (QL.go Z Z Z (fun wq gq => Ag Z (Ak (cs := e13.cells) wh31 (Rd.cl (hr2.st0 ((H5.grow gq).fix (i := 0) Z)) hA16 (Bt he14)))) ?_)
     refine QL.br (p := ¬ ((e8.num : Int) = (e13.num : Int) ∧ (e8.view : Int) = (e13.view : Int) ∧ (e8.client : Int) = (e13.client : Int) ∧ (e8.seq : Int) = (e13.seq : Int) ∧ (e8.op.kind : Int) = (e13.op.kind : Int) ∧ (e8.op.h : Int) = (e13.op.h : Int) ∧ (e8.op.i : Int) = (e13.op.i : Int) ∧ (e8.op.n : Int) = (e13.op.n : Int) ∧ (e8.op.k : Int) = (e13.op.k : Int) ∧ (e8.op.v : Int) = (e13.op.v : Int) ∧ (e8.op.t : Int) = (e13.op.t : Int))) Z Z Z (fun r hr wq gq => Ex.neS (xs := e8.cells) (ys := e13.cells) Tryz.eqGuardType31 (eqT31 (by rw [← hr]; simp)) Z Z) (fun h18 => ?_) (fun h18 => ?_)
     ·skip
      refine QL.nil ?_
      intro w19 g20
      have H21 := H5.grow g20
      have z22 := g20.size
      refine thn.n (Aa Z (CW.seq (CW.region (za bF Z (RL.nil (thn.n (CW.ret (inB.r (thn.r (thn.r (inB.r (thn.r (finQ.r (v := bF) (Ax Z Z) ?_)))))))))))))
      exact ⟨An (by symm; rw [decide_eq_false_iff_not]; exact ne_at he9 he14 (fun h => h18 (by rw [h]; exact ⟨Z, Z, Z, Z, Z, Z, Z, Z, Z, Z, Z⟩))), (H21.fix (i := 0) Z)⟩
     ·skip
      refine QL.nil ?_
      intro w23 g24
      have H25 := H5.grow g24
      have z26 := g24.size
      refine thn.n (Ad Z (CW.skip (inB.n (thn.n (CW.region (zm (J (i : Int)) Z (zg Z (Ex.add (r := (i : Int) + 1) Z Z (Dd (by omega) (by omega))) (za (J ((i : Int) + 1)) Z (RL.nil (thn.n ?_))))))))))
      refine ⟨(by repeat (first | exact Out.mix _ _ | exact Out.refl _ _ | refine Bf ?_ Z _)), _, ?_, i + 1, Z, Z, H25, by omega, take_same htk he9 he14 (ent_eq (Decidable.not_not.1 h18))⟩
      omega
    ·skip
     refine RL.nil (thn.n (Ad Z (CW.exit (thn.x (thn.x (Bh (thn.n (CW.seq (CW.region (za bT Z (RL.nil (thn.n (CW.ret (finQ.r (v := bT) (Ax Z Z) ?_))))))))))))))
     exact ⟨An (by symm; rw [decide_eq_true_eq]; rw [← List.take_of_length_le (i := i) (l := l) (by omega), htk, List.take_of_length_le (by omega)]), (H5.fix (i := 0) Z)⟩
set_option maxHeartbeats 400000 in
set_option maxRecDepth 20000 in
theorem own15_ (w : World) (B : Nat) (k : Kept) (A : Option Addr) (n c : Nat) (hr : Rd w B 11 A (ents k.ents)) (hB : B ≤ w.heap.size) (hn : n = k.ents.length) (hm : n ≤ 1099511627776) : Ret Tryz.prog 24 [(.agg ([(J k.view), (J k.normal), (J k.base), (.string (tx k.image)), (.slice A n c)]).toArray)] w (fun v w' => ∃ (A' : Option Addr) (n' c' : Nat), v = .agg [.int .i64 k.view, .int .i64 k.normal, .int .i64 k.base, .string (tx k.image), .slice A' n' c'].toArray ∧ Sp ([At 31 11 A' n' c' (ents k.ents)] ++ [Bc w Bp]) w') := by
  have H0 : Sp [Bc w Bp] w := Bl w
  refine Ret.body Tryz.func24 Z Z Z ?_
  refine CW.seq (CW.region (RL.bx (cs := [(J k.view), (J k.normal), (J k.base), (.string (tx k.image)), (.slice A n c)]) Z Z Z ?_))
  intro w1 b2 hb3 hz4 g5 o6
  have H7 := H0.newB g5 o6 (by omega)
  have z8 := g5.size
  refine RL.al (cs := [(J 0), (J 0), (J 0), (.string (⟨#[]⟩)), (.slice none 0 0)]) Tryz.zeroValue24 Z Z Z ?_
  intro w9 b10 hb11 hz12 g13 o14
  have H15 := H7.newB g13 o14 (by omega)
  have z16 := g13.size
  refine RL.nil (thn.n (CW.seq (CW.region (za (.slice none 0 0) Z (RL.nil (thn.n (CW.seq (CW.region (zm (.slice none 0 0) Z (zg Z (Df (b := ⟨b2, 4, none⟩) Z Z) (zl (.slice A n c) lo22 (H15.ob (i := 1) Z) Z ?_)))))))))))
  have H17 := H15.nil_ 31 11
  refine RL.apW (base := 0) (xss := (ents [])) (yss := (ents k.ents)) el22 (H17.wr (i := 0) Z) Z (hr.st0 (H17.fix (i := 3) Z)) Z (by simp only [Ap, Ar, Aq, Aj, Ai, Au, List.length_append, List.length_cons, List.length_nil, List.length_take, List.length_drop, List.length_map, Cq, Dk, Be, Bg, Cw]; try omega) (ents_one _) (by omega) (by omega) (by omega) Z Z ?_
  intro w18 A19 c20 g21 ow22 nx23
  have H24 : Sp [At 31 11 A19 (0 + n) c20 (ents k.ents), Ae b10 24 [(J 0), (J 0), (J 0), (.string (⟨#[]⟩)), (.slice none 0 0)], Ae b2 24 [(J k.view), (J k.normal), (J k.base), (.string (tx k.image)), (.slice A n c)], Bc w Bp] w18 := H17.setR (i := 0) rfl g21 ((List.nil_append _) ▸ ow22) nx23 rfl
  have z25 := g21.size
  refine za (.slice A19 (0 + n) c20) Z (RL.nil (thn.n (CW.seq (CW.region (zm (.slice A19 (0 + n) c20) Z (zg Z (Df (b := ⟨b2, 4, none⟩) Z Z) (RL.st (vs := [(.slice A19 (0 + n) c20)]) (cs' := [(J k.view), (J k.normal), (J k.base), (.string (tx k.image)), (.slice A19 (0 + n) c20)]) Tryz.sizeOf22 (H24.ob (i := 2) Z) Z Z Z Z Z Z ?_)))))))
  intro w26 hz27 g28 o29
  have H30 : Sp [At 31 11 A19 (0 + n) c20 (ents k.ents), Ae b10 24 [(J 0), (J 0), (J 0), (.string (⟨#[]⟩)), (.slice none 0 0)], Ae b2 24 [(J k.view), (J k.normal), (J k.base), (.string (tx k.image)), (.slice A19 (0 + n) c20)], Bc w Bp] w26 := H24.setB (i := 2) rfl g28 o29 rfl
  have z31 := g28.size
  refine RL.nil (thn.n (CW.seq (CW.region (zg Z (Ag Z (Ak (cs := [(J k.view), (J k.normal), (J k.base), (.string (tx k.image)), (.slice A19 (0 + n) c20)]) wh24 (H30.ob (i := 2) Z).cl)) (RL.st (vs := [(J k.view), (J k.normal), (J k.base), (.string (tx k.image)), (.slice A19 (0 + n) c20)]) (cs' := [(J k.view), (J k.normal), (J k.base), (.string (tx k.image)), (.slice A19 (0 + n) c20)]) Tryz.sizeOf24 (H30.ob (i := 1) Z) Z Z Z Z Z Z ?_)))))
  intro w32 hz33 g34 o35
  have H36 : Sp [At 31 11 A19 (0 + n) c20 (ents k.ents), Ae b10 24 [(J k.view), (J k.normal), (J k.base), (.string (tx k.image)), (.slice A19 (0 + n) c20)], Ae b2 24 [(J k.view), (J k.normal), (J k.base), (.string (tx k.image)), (.slice A19 (0 + n) c20)], Bc w Bp] w32 := H30.setB (i := 1) rfl g34 o35 rfl
  have z37 := g34.size
  refine RL.nil (thn.n (CW.ret (finQ.r (v := (.agg ([(J k.view), (J k.normal), (J k.base), (.string (tx k.image)), (.slice A19 (0 + n) c20)]).toArray)) (resv1 Z (Rv.cell Z (Ak (cs := [(J k.view), (J k.normal), (J k.base), (.string (tx k.image)), (.slice A19 (0 + n) c20)]) wh24 (H36.ob (i := 1) Z).cl))) ?_)))
  exact ⟨_, _, _, Z, (H36.sel [0, 3] (by decide) Z)⟩
set_option maxHeartbeats 1000000 in
set_option maxRecDepth 20000 in
theorem same15_ (w : World) (B : Nat) (k q : Kept) (A A2 : Option Addr) (n c n2 c2 : Nat) (hr : Rd w B 11 A (ents k.ents)) (hr2 : Rd w B 11 A2 (ents q.ents)) (hB : B ≤ w.heap.size) (hn : n = k.ents.length) (hn2 : n2 = q.ents.length) (hm : n ≤ 1099511627776) : Ret Tryz.prog 30 [(.agg ([(J k.view), (J k.normal), (J k.base), (.string (tx k.image)), (.slice A n c)]).toArray), (.agg ([(J q.view), (J q.normal), (J q.base), (.string (tx q.image)), (.slice A2 n2 c2)]).toArray)] w (fun v w' => v = .bool (decide (k = q)) ∧ w.grownBy w' none) := by
  have H0 : Sp [Bc w Bp] w := Bl w
  refine Ret.body Tryz.func30 Z Z Z ?_
  refine CW.seq (CW.region (RL.bx (cs := [(J k.view), (J k.normal), (J k.base), (.string (tx k.image)), (.slice A n c)]) Z Z Z ?_))
  intro w1 b2 hb3 hz4 g5 o6
  have H7 := H0.newB g5 o6 (by omega)
  have z8 := g5.size
  refine RL.bx (cs := [(J q.view), (J q.normal), (J q.base), (.string (tx q.image)), (.slice A2 n2 c2)]) Z Z Z ?_
  intro w9 b10 hb11 hz12 g13 o14
  have H15 := H7.newB g13 o14 (by omega)
  have z16 := g13.size
  refine za bF Z (RL.nil (thn.n (CW.seq (CW.region (zg Z (fa24_0 (b := ⟨b2, 0, none⟩) Z Z) (zl (J k.view) Bw (H15.ob (i := 1) Z) Z (zg Z (fa24_0 (b := ⟨b10, 0, none⟩) Z Z) (zl (J q.view) Bw (H15.ob (i := 0) Z) Z ?_))))))))
  refine zc ((k.view : Int) = (q.view : Int)) Z (fun r hr => Bm Z Z hr) (fun h17 => ?_) (fun h17 => ?_)
  ·skip
   refine zm bT Z (zg Z (fa24_1 (b := ⟨b2, 1, none⟩) Z Z) (zl (J k.normal) Bw (H15.ob (i := 1) Z) Z (zg Z (fa24_1 (b := ⟨b10, 1, none⟩) Z Z) (zl (J q.normal) Bw (H15.ob (i := 0) Z) Z ?_))))
   refine zc ((k.normal : Int) = (q.normal : Int)) Z (fun r hr => Bm Z Z hr) (fun h18 => ?_) (fun h18 => ?_)
   ·skip
    refine zT bT Z (zm bT Z (zg Z (fa24_2 (b := ⟨b2, 2, none⟩) Z Z) (zl (J k.base) Bw (H15.ob (i := 1) Z) Z (zg Z (fa24_2 (b := ⟨b10, 2, none⟩) Z Z) (zl (J q.base) Bw (H15.ob (i := 0) Z) Z ?_)))))
    refine zc ((k.base : Int) = (q.base : Int)) Z (fun r hr => Bm Z Z hr) (fun h19 => ?_) (fun h19 => ?_)
    ·skip
     refine zT bT Z (zm bT Z (zg Z (fa24_3 (b := ⟨b2, 3, none⟩) Z Z) (zl (.string (tx k.image)) lo9 (H15.ob (i := 1) Z) Z (zg Z (fa24_3 (b := ⟨b10, 3, none⟩) Z Z) (zl (.string (tx q.image)) lo9 (H15.ob (i := 0) Z) Z ?_)))))
     refine zc (k.image = q.image) Z (fun r hr => Ex.eqTx (l := k.image) (m := q.image) Z Z hr) (fun h20 => ?_) (fun h20 => ?_)
     ·skip
      refine zT bT Z (zm bT Z (zg Z (Df (b := ⟨b2, 4, none⟩) Z Z) (zl (.slice A n c) lo22 (H15.ob (i := 1) Z) Z (zg Z (Df (b := ⟨b10, 4, none⟩) Z Z) (zl (.slice A2 n2 c2) lo22 (H15.ob (i := 0) Z) Z (RL.call Tryz.call31 (entSameR_ _ _ k.ents q.ents A A2 n c n2 c2 ((hr.st0 (H15.fix (i := 2) Z)).more (by omega)) (by first | assumption | rfl | omega) ((hr2.st0 (H15.fix (i := 2) Z)).more (by omega)) (by first | assumption | rfl | omega) (by omega)) Z Z Z ?_))))))
      rintro _ w21 ⟨rfl, g22⟩
      have H23 := H15.grow g22
      have z24 := g22.size
      rcases hb25 : (decide (k.ents = q.ents)) with _ | _
      ·skip
       refine zT bF Z (za bF Z (RL.nil (thn.n (CW.ret (finQ.r (v := bF) (Ax Z Z) ?_)))))
       exact ⟨An (by symm; rw [decide_eq_false_iff_not]; intro h; first | exact absurd (of_decide_eq_false hb25) (by rw [h]; simp) | exact hb25 (by rw [h]; exact ⟨Z, Z, Z, Z, Z, Z, Z, Z, Z, Z, Z⟩) | exact hb25 (by rw [h])), (H23.fix (i := 2) Z)⟩
      ·skip
       refine zT bT Z (za bT Z (RL.nil (thn.n (CW.ret (finQ.r (v := bT) (Ax Z Z) ?_)))))
       exact ⟨An (by symm; rw [decide_eq_true_eq]; exact kept_eq h17 h18 h19 h20 (of_decide_eq_true hb25)), (H23.fix (i := 2) Z)⟩
     ·skip
      refine zT bF Z (zm bF Z (zo Z (zo Z (zo Z (zo Z (zo Z (zF bF Z (za bF Z (RL.nil (thn.n (CW.ret (finQ.r (v := bF) (Ax Z Z) ?_))))))))))))
      exact ⟨An (by symm; rw [decide_eq_false_iff_not]; intro h; first | exact absurd (of_decide_eq_false h20) (by rw [h]; simp) | exact h20 (by rw [h]; exact ⟨Z, Z, Z, Z, Z, Z, Z, Z, Z, Z, Z⟩) | exact h20 (by rw [h])), (H15.fix (i := 2) Z)⟩
    ·skip
     refine zT bF Z (zm bF Z (zo Z (zo Z (zo Z (zo Z (zo Z (zF bF Z (zm bF Z (zo Z (zo Z ?_))))))))))
     refine zo Z (zo Z (zo Z (zF bF Z (za bF Z (RL.nil (thn.n (CW.ret (finQ.r (v := bF) (Ax Z Z) ?_))))))))
     exact ⟨An (by symm; rw [decide_eq_false_iff_not]; intro h; first | exact absurd (of_decide_eq_false h19) (by rw [h]; simp) | exact h19 (by rw [h]; exact ⟨Z, Z, Z, Z, Z, Z, Z, Z, Z, Z, Z⟩) | exact h19 (by rw [h])), (H15.fix (i := 2) Z)⟩
   ·skip
    refine zT bF Z (zm bF Z (zo Z (zo Z (zo Z (zo Z (zo Z (zF bF Z (zm bF Z (zo Z (zo Z ?_))))))))))
    refine zo Z (zo Z (zo Z (zF bF Z (zm bF Z (zo Z (zo Z (zo Z (zo Z (zo Z (zF bF Z ?_))))))))))
    refine za bF Z (RL.nil (thn.n (CW.ret (finQ.r (v := bF) (Ax Z Z) ?_))))
    exact ⟨An (by symm; rw [decide_eq_false_iff_not]; intro h; first | exact absurd (of_decide_eq_false h18) (by rw [h]; simp) | exact h18 (by rw [h]; exact ⟨Z, Z, Z, Z, Z, Z, Z, Z, Z, Z, Z⟩) | exact h18 (by rw [h])), (H15.fix (i := 2) Z)⟩
  ·skip
   refine zm bF Z (zo Z (zo Z (zo Z (zo Z (zo Z (zF bF Z (zm bF Z (zo Z (zo Z (zo Z ?_))))))))))
   refine zo Z (zo Z (zF bF Z (zm bF Z (zo Z (zo Z (zo Z (zo Z (zo Z (zF bF Z (zm bF Z ?_))))))))))
   refine zo Z (zo Z (zo Z (zo Z (zo Z (zF bF Z (za bF Z (RL.nil (thn.n (CW.ret (finQ.r (v := bF) (Ax Z Z) ?_))))))))))
   exact ⟨An (by symm; rw [decide_eq_false_iff_not]; intro h; first | exact absurd (of_decide_eq_false h17) (by rw [h]; simp) | exact h17 (by rw [h]; exact ⟨Z, Z, Z, Z, Z, Z, Z, Z, Z, Z, Z⟩) | exact h17 (by rw [h])), (H15.fix (i := 2) Z)⟩
set_option maxHeartbeats 1000000 in
set_option maxRecDepth 20000 in
theorem sameRec_ (w : World) (B : Nat) (ra qa : Rec) (A A2 : Option Addr) (n c n2 c2 : Nat) (hr : Rd w B 11 A (ents ra.ents)) (hr2 : Rd w B 11 A2 (ents qa.ents)) (hB : B ≤ w.heap.size) (hn : n = ra.ents.length) (hn2 : n2 = qa.ents.length) (hm : n ≤ 1099511627776) : Ret Tryz.prog 27 [(.agg ([(J ra.kind), (J ra.view), (J ra.from_), (J ra.number), (.string (tx ra.image)), (J ra.entry.num), (J ra.entry.view), (J ra.entry.client), (J ra.entry.seq), (J ra.entry.op.kind), (J ra.entry.op.h), (J ra.entry.op.i), (J ra.entry.op.n), (J ra.entry.op.k), (J ra.entry.op.v), (J ra.entry.op.t), (.slice A n c)]).toArray), (.agg ([(J qa.kind), (J qa.view), (J qa.from_), (J qa.number), (.string (tx qa.image)), (J qa.entry.num), (J qa.entry.view), (J qa.entry.client), (J qa.entry.seq), (J qa.entry.op.kind), (J qa.entry.op.h), (J qa.entry.op.i), (J qa.entry.op.n), (J qa.entry.op.k), (J qa.entry.op.v), (J qa.entry.op.t), (.slice A2 n2 c2)]).toArray)] w (fun v w' => v = .bool (decide (ra = qa)) ∧ w.grownBy w' none) := by
  have H0 : Sp [Bc w Bp] w := Bl w
  refine Ret.body Tryz.func27 Z Z Z ?_
  refine CW.seq (CW.region (RL.bx (cs := [(J ra.kind), (J ra.view), (J ra.from_), (J ra.number), (.string (tx ra.image)), (J ra.entry.num), (J ra.entry.view), (J ra.entry.client), (J ra.entry.seq), (J ra.entry.op.kind), (J ra.entry.op.h), (J ra.entry.op.i), (J ra.entry.op.n), (J ra.entry.op.k), (J ra.entry.op.v), (J ra.entry.op.t), (.slice A n c)]) Z Z Z ?_))
  intro w1 b2 hb3 hz4 g5 o6
  have H7 := H0.newB g5 o6 (by omega)
  have z8 := g5.size
  refine RL.bx (cs := [(J qa.kind), (J qa.view), (J qa.from_), (J qa.number), (.string (tx qa.image)), (J qa.entry.num), (J qa.entry.view), (J qa.entry.client), (J qa.entry.seq), (J qa.entry.op.kind), (J qa.entry.op.h), (J qa.entry.op.i), (J qa.entry.op.n), (J qa.entry.op.k), (J qa.entry.op.v), (J qa.entry.op.t), (.slice A2 n2 c2)]) Z Z Z ?_
  intro w9 b10 hb11 hz12 g13 o14
  have H15 := H7.newB g13 o14 (by omega)
  have z16 := g13.size
  refine za bF Z (RL.nil (thn.n (CW.seq (CW.region (zg Z (fa33_0 (b := ⟨b2, 0, none⟩) Z Z) (zl (J ra.kind) lo26 (H15.ob (i := 1) Z) Z (zg Z (fa33_0 (b := ⟨b10, 0, none⟩) Z Z) (zl (J qa.kind) lo26 (H15.ob (i := 0) Z) Z ?_))))))))
  refine zc ((ra.kind : Int) = (qa.kind : Int)) Z (fun r hr => Bm Z Z hr) (fun h17 => ?_) (fun h17 => ?_)
  ·skip
   refine zm bT Z (zg Z (fa33_1 (b := ⟨b2, 1, none⟩) Z Z) (zl (J ra.view) Bw (H15.ob (i := 1) Z) Z (zg Z (fa33_1 (b := ⟨b10, 1, none⟩) Z Z) (zl (J qa.view) Bw (H15.ob (i := 0) Z) Z ?_))))
   refine zc ((ra.view : Int) = (qa.view : Int)) Z (fun r hr => Bm Z Z hr) (fun h18 => ?_) (fun h18 => ?_)
   ·skip
    refine zT bT Z (zm bT Z (zg Z (fa33_2 (b := ⟨b2, 2, none⟩) Z Z) (zl (J ra.from_) Bw (H15.ob (i := 1) Z) Z (zg Z (fa33_2 (b := ⟨b10, 2, none⟩) Z Z) (zl (J qa.from_) Bw (H15.ob (i := 0) Z) Z ?_)))))
    refine zc ((ra.from_ : Int) = (qa.from_ : Int)) Z (fun r hr => Bm Z Z hr) (fun h19 => ?_) (fun h19 => ?_)
    ·skip
     refine zT bT Z (zm bT Z (zg Z (fa33_3 (b := ⟨b2, 3, none⟩) Z Z) (zl (J ra.number) Bw (H15.ob (i := 1) Z) Z (zg Z (fa33_3 (b := ⟨b10, 3, none⟩) Z Z) (zl (J qa.number) Bw (H15.ob (i := 0) Z) Z ?_)))))
     refine zc ((ra.number : Int) = (qa.number : Int)) Z (fun r hr => Bm Z Z hr) (fun h20 => ?_) (fun h20 => ?_)
     ·skip
      refine zT bT Z (zm bT Z (zg Z (fa33_4 (b := ⟨b2, 4, none⟩) Z Z) (zl (.string (tx ra.image)) lo9 (H15.ob (i := 1) Z) Z (zg Z (fa33_4 (b := ⟨b10, 4, none⟩) Z Z) (zl (.string (tx qa.image)) lo9 (H15.ob (i := 0) Z) Z ?_)))))
      refine zc (ra.image = qa.image) Z (fun r hr => Ex.eqTx (l := ra.image) (m := qa.image) Z Z hr) (fun h21 => ?_) (fun h21 => ?_)
      ·skip
       refine zT bT Z (zm bT Z (zg Z (fa33_5 (b := ⟨b2, 5, none⟩) Z Z) (zg Z (Ag Z (Ak (cs := [(J ra.entry.num), (J ra.entry.view), (J ra.entry.client), (J ra.entry.seq), (J ra.entry.op.kind), (J ra.entry.op.h), (J ra.entry.op.i), (J ra.entry.op.n), (J ra.entry.op.k), (J ra.entry.op.v), (J ra.entry.op.t)]) wh31 ((H15.ob (i := 1) Z).sub 5 11))) (zg Z (fa33_5 (b := ⟨b10, 5, none⟩) Z Z) (zg Z (Ag Z (Ak (cs := [(J qa.entry.num), (J qa.entry.view), (J qa.entry.client), (J qa.entry.seq), (J qa.entry.op.kind), (J qa.entry.op.h), (J qa.entry.op.i), (J qa.entry.op.n), (J qa.entry.op.k), (J qa.entry.op.v), (J qa.entry.op.t)]) wh31 ((H15.ob (i := 0) Z).sub 5 11))) ?_)))))
       refine zc ((ra.entry.num : Int) = (qa.entry.num : Int) ∧ (ra.entry.view : Int) = (qa.entry.view : Int) ∧ (ra.entry.client : Int) = (qa.entry.client : Int) ∧ (ra.entry.seq : Int) = (qa.entry.seq : Int) ∧ (ra.entry.op.kind : Int) = (qa.entry.op.kind : Int) ∧ (ra.entry.op.h : Int) = (qa.entry.op.h : Int) ∧ (ra.entry.op.i : Int) = (qa.entry.op.i : Int) ∧ (ra.entry.op.n : Int) = (qa.entry.op.n : Int) ∧ (ra.entry.op.k : Int) = (qa.entry.op.k : Int) ∧ (ra.entry.op.v : Int) = (qa.entry.op.v : Int) ∧ (ra.entry.op.t : Int) = (qa.entry.op.t : Int)) Z (fun r hr => Ex.eqS (xs := [(J ra.entry.num), (J ra.entry.view), (J ra.entry.client), (J ra.entry.seq), (J ra.entry.op.kind), (J ra.entry.op.h), (J ra.entry.op.i), (J ra.entry.op.n), (J ra.entry.op.k), (J ra.entry.op.v), (J ra.entry.op.t)]) (ys := [(J qa.entry.num), (J qa.entry.view), (J qa.entry.client), (J qa.entry.seq), (J qa.entry.op.kind), (J qa.entry.op.h), (J qa.entry.op.i), (J qa.entry.op.n), (J qa.entry.op.k), (J qa.entry.op.v), (J qa.entry.op.t)]) Tryz.eqGuardType31 (eqT31 hr) Z Z) (fun h22 => ?_) (fun h22 => ?_)
       ·skip
        refine zT bT Z (zm bT Z (zg Z (fa33_6 (b := ⟨b2, 16, none⟩) Z Z) (zl (.slice A n c) lo22 (H15.ob (i := 1) Z) Z (zg Z (fa33_6 (b := ⟨b10, 16, none⟩) Z Z) (zl (.slice A2 n2 c2) lo22 (H15.ob (i := 0) Z) Z (RL.call Tryz.call31 (entSameR_ _ _ ra.ents qa.ents A A2 n c n2 c2 ((hr.st0 (H15.fix (i := 2) Z)).more (by omega)) (by first | assumption | rfl | omega) ((hr2.st0 (H15.fix (i := 2) Z)).more (by omega)) (by first | assumption | rfl | omega) (by omega)) Z Z Z ?_))))))
        rintro _ w23 ⟨rfl, g24⟩
        have H25 := H15.grow g24
        have z26 := g24.size
        rcases hb27 : (decide (ra.ents = qa.ents)) with _ | _
        ·skip
         refine zT bF Z (za bF Z (RL.nil (thn.n (CW.ret (finQ.r (v := bF) (Ax Z Z) ?_)))))
         exact ⟨An (by symm; rw [decide_eq_false_iff_not]; intro h; first | exact absurd (of_decide_eq_false hb27) (by rw [h]; simp) | exact hb27 (by rw [h]; exact ⟨Z, Z, Z, Z, Z, Z, Z, Z, Z, Z, Z⟩) | exact hb27 (by rw [h])), (H25.fix (i := 2) Z)⟩
        ·skip
         refine zT bT Z (za bT Z (RL.nil (thn.n (CW.ret (finQ.r (v := bT) (Ax Z Z) ?_)))))
         exact ⟨An (by symm; rw [decide_eq_true_eq]; exact rec_eq h17 h18 h19 h20 h21 (ent_eq h22) (of_decide_eq_true hb27)), (H25.fix (i := 2) Z)⟩
       ·skip
        refine zT bF Z (zm bF Z (zo Z (zo Z (zo Z (zo Z (zo Z (zF bF Z (za bF Z (RL.nil (thn.n (CW.ret (finQ.r (v := bF) (Ax Z Z) ?_))))))))))))
        exact ⟨An (by symm; rw [decide_eq_false_iff_not]; intro h; first | exact absurd (of_decide_eq_false h22) (by rw [h]; simp) | exact h22 (by rw [h]; exact ⟨Z, Z, Z, Z, Z, Z, Z, Z, Z, Z, Z⟩) | exact h22 (by rw [h])), (H15.fix (i := 2) Z)⟩
      ·skip
       refine zT bF Z (zm bF Z (zo Z (zo Z (zo Z (zo Z (zo Z (zF bF Z (zm bF Z (zo Z (zo Z ?_))))))))))
       refine zo Z (zo Z (zo Z (zF bF Z (za bF Z (RL.nil (thn.n (CW.ret (finQ.r (v := bF) (Ax Z Z) ?_))))))))
       exact ⟨An (by symm; rw [decide_eq_false_iff_not]; intro h; first | exact absurd (of_decide_eq_false h21) (by rw [h]; simp) | exact h21 (by rw [h]; exact ⟨Z, Z, Z, Z, Z, Z, Z, Z, Z, Z, Z⟩) | exact h21 (by rw [h])), (H15.fix (i := 2) Z)⟩
     ·skip
      refine zT bF Z (zm bF Z (zo Z (zo Z (zo Z (zo Z (zo Z (zF bF Z (zm bF Z (zo Z (zo Z ?_))))))))))
      refine zo Z (zo Z (zo Z (zF bF Z (zm bF Z (zo Z (zo Z (zo Z (zo Z (zo Z (zF bF Z ?_))))))))))
      refine za bF Z (RL.nil (thn.n (CW.ret (finQ.r (v := bF) (Ax Z Z) ?_))))
      exact ⟨An (by symm; rw [decide_eq_false_iff_not]; intro h; first | exact absurd (of_decide_eq_false h20) (by rw [h]; simp) | exact h20 (by rw [h]; exact ⟨Z, Z, Z, Z, Z, Z, Z, Z, Z, Z, Z⟩) | exact h20 (by rw [h])), (H15.fix (i := 2) Z)⟩
    ·skip
     refine zT bF Z (zm bF Z (zo Z (zo Z (zo Z (zo Z (zo Z (zF bF Z (zm bF Z (zo Z (zo Z ?_))))))))))
     refine zo Z (zo Z (zo Z (zF bF Z (zm bF Z (zo Z (zo Z (zo Z (zo Z (zo Z (zF bF Z ?_))))))))))
     refine zm bF Z (zo Z (zo Z (zo Z (zo Z (zo Z (zF bF Z (za bF Z (RL.nil (thn.n (CW.ret (finQ.r (v := bF) (Ax Z Z) ?_)))))))))))
     exact ⟨An (by symm; rw [decide_eq_false_iff_not]; intro h; first | exact absurd (of_decide_eq_false h19) (by rw [h]; simp) | exact h19 (by rw [h]; exact ⟨Z, Z, Z, Z, Z, Z, Z, Z, Z, Z, Z⟩) | exact h19 (by rw [h])), (H15.fix (i := 2) Z)⟩
   ·skip
    refine zT bF Z (zm bF Z (zo Z (zo Z (zo Z (zo Z (zo Z (zF bF Z (zm bF Z (zo Z (zo Z ?_))))))))))
    refine zo Z (zo Z (zo Z (zF bF Z (zm bF Z (zo Z (zo Z (zo Z (zo Z (zo Z (zF bF Z ?_))))))))))
    refine zm bF Z (zo Z (zo Z (zo Z (zo Z (zo Z (zF bF Z (zm bF Z (zo Z (zo Z (zo Z ?_))))))))))
    refine zo Z (zo Z (zF bF Z (za bF Z (RL.nil (thn.n (CW.ret (finQ.r (v := bF) (Ax Z Z) ?_)))))))
    exact ⟨An (by symm; rw [decide_eq_false_iff_not]; intro h; first | exact absurd (of_decide_eq_false h18) (by rw [h]; simp) | exact h18 (by rw [h]; exact ⟨Z, Z, Z, Z, Z, Z, Z, Z, Z, Z, Z⟩) | exact h18 (by rw [h])), (H15.fix (i := 2) Z)⟩
  ·skip
   refine zm bF Z (zo Z (zo Z (zo Z (zo Z (zo Z (zF bF Z (zm bF Z (zo Z (zo Z (zo Z ?_))))))))))
   refine zo Z (zo Z (zF bF Z (zm bF Z (zo Z (zo Z (zo Z (zo Z (zo Z (zF bF Z (zm bF Z ?_))))))))))
   refine zo Z (zo Z (zo Z (zo Z (zo Z (zF bF Z (zm bF Z (zo Z (zo Z (zo Z (zo Z ?_))))))))))
   refine zo Z (zF bF Z (zm bF Z (zo Z (zo Z (zo Z (zo Z (zo Z (zF bF Z (za bF Z (RL.nil (thn.n (CW.ret ?_))))))))))))
   refine finQ.r (v := bF) (Ax Z Z) ?_
   exact ⟨An (by symm; rw [decide_eq_false_iff_not]; intro h; first | exact absurd (of_decide_eq_false h17) (by rw [h]; simp) | exact h17 (by rw [h]; exact ⟨Z, Z, Z, Z, Z, Z, Z, Z, Z, Z, Z⟩) | exact h17 (by rw [h])), (H15.fix (i := 2) Z)⟩
end Go.Proofs.YtfokljnhllflbaaGreat
namespace Go.Eng
open Go
def knownP (commit client seq : Int) (e : Entry) : Bool := decide (commit < e.num) && decide (e.client = client) && decide (seq ≤ e.seq)
def knownK (k : Kept) (commit client seq : Int) : Bool := Cj k && k.ents.any (knownP commit client seq)
theorem any_yes {α : Type} {p : α → Bool} {l : List α} {i : Nat} {x : α} (hx : l[i]? = some x) (h : p x = true) : l.any p = true := List.any_eq_true.2 ⟨x, List.mem_of_getElem? hx, h⟩
theorem any_none {α : Type} {p : α → Bool} {l : List α} {n : Nat} (hn : l.length ≤ n) (h : ∀ (j : Nat) (x : α), j < n → l[j]? = some x → p x = false) : l.any p = false := List.any_eq_false.2 fun x hx => by
  obtain ⟨j, hj⟩ := List.mem_iff_getElem?.1 hx
  rw [h j x (by have := lt_len hj; omega) hj]
  decide
theorem laid_eq {a b : Entry} (h : (⟨2, 0, 0, 0, [], a, []⟩ : Rec) = ⟨2, 0, 0, 0, [], b, []⟩) : a = b := congrArg Rec.entry h
theorem joinK_no {k : Kept} {number : Int} {l : List Entry} (h : ¬ (Cj k = true ∧ 0 ≤ number ∧ number ≤ lastOf k ∧ follB l number = true)) : Co k number l = ([], false) := by unfold Co; rw [if_neg h]
theorem joinK_yes {k : Kept} {number : Int} {l : List Entry} (h1 : Cj k = true) (h2 : 0 ≤ number) (h3 : number ≤ Dm k) (h4 : follB l number = true) : Co k number l = (l.filter (fun e => decide (Dm k < e.num)), true) := by
  have e : lastOf k = Dm k := by unfold lastOf; rw [if_pos h1]
  unfold Co
  rw [if_pos ⟨h1, h2, by rw [e]; exact h3, h4⟩, e]
theorem lastOf_t {k : Kept} (h : Cj k = true) : lastOf k = Dm k := by unfold lastOf; rw [if_pos h]
end Go.Eng
