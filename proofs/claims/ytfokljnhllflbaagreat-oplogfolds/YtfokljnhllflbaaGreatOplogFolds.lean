/- A record makes of what is kept just what the document says, or is refused; what is handed in stays, what comes out is new: for every input, with no condition. -/
import Derived.Deep.Quiet
import Derived.Ground.NamesProg
import Derived.Ground.SlgcProg
import Derived.Ground.SlsfProg
import Derived.JoinedOf
import Derived.Laws.BytesString
import Derived.Laws.MakeOwn
import Derived.Laws.Strings
import Derived.Lib.AppendZeros
import Derived.Lib.ConvBytes
import Derived.Lib.Overlaps
import Derived.Maps.AppendAt
import Derived.OrdersHeld
import Derived.ProofKit
import Derived.Recover
import Derived.ScopeJumps
import Derived.Shelf.SlSortCmp.NoneTotal
import Derived.Shelf.SlSortCmp.WholeK
import Derived.Shelf.SlicesG.Cmp
import Derived.Shelf.Small.Bits
import Derived.Sort.OwnSortedInts
import Derived.StillTail
import Derived.Test.YtfokljnhllflbaaGreatProg
import Derived.Test.YtfokljnhllflbaaGreatRows
import Derived.WalkKit
import Derived.WalkLawsBesides
import Derived.WalkSpells
import Derived.Test.YtfokljnhllflbaaGreatPOplogFolds5
set_option linter.unusedSimpArgs false
set_option linter.unusedVariables false
namespace Go.Proofs.YtfokljnhllflbaaGreat
open Go Go.Eng Go.RowKit Go.Proofs.Tryz
set_option maxHeartbeats 2000000 in
set_option maxRecDepth 20000 in
theorem foldR_ (w : World) (B : Nat) (k : Kept) (A : Option Addr) (n c : Nat) (hr : Rd w B 11 A (ents k.ents)) (hB : B ≤ w.heap.size) (hn : n = k.ents.length) (hm : n ≤ 1099511627776) (hc : n ≤ c) (hi : k.image.length ≤ 140737488351232) (r : Rec) (A2 : Option Addr) (n2 c2 : Nat) (hr2 : Rd w B 11 A2 (ents r.ents)) (hn2 : n2 = r.ents.length) (hm2 : n2 ≤ 1000000) (hc2 : n2 ≤ c2) (hi2 : r.image.length ≤ 140737488351232) (hik : k.image.length ≤ 1000000) (hir : r.image.length ≤ 1000000) : Ret prog 41 [(.agg ((kC k A n c)).toArray), (.agg ((rC r A2 n2 c2)).toArray)] w (fun v w' => ∃ (A' : Option Addr) (n' c' : Nat), v = .tuple #[.agg [.int .i64 (Ay k r).2.view, .int .i64 (Ay k r).2.normal, .int .i64 (Ay k r).2.base, .string (tx (Ay k r).2.image), .slice A' n' c'].toArray, .int .i64 (Ay k r).1] ∧ Sp ([Ai 31 11 A' n' c' (ents (Ay k r).2.ents)] ++ [Bd w Bl]) w') := by
  have H0:Sp [Bd w Bl] w:=Bv w
  refine aP func41 Z Z Z ?_
  refine cT (bH (cs:=(kC k A n c)) Z Z Z ?_)
  intro w1 b2 hb3 hz4 g5 o6
  have H7:=H0.newB g5 o6 (by omega)
  have z8:=g5.size
  refine bH (cs:=(rC r A2 n2 c2)) Z Z Z ?_
  intro w9 b10 hb11 hz12 g13 o14
  have H15:=H7.newB g13 o14 (by omega)
  have z16:=g13.size
  refine bG (cs:=[(J 0),(J 0),(J 0),(.string (⟨#[]⟩)),(.slice none 0 0)]) zeroValue24 Z Z Z ?_
  intro w17 b18 hb19 hz20 g21 o22
  have H23:=H15.newB g21 o22 (by omega)
  have z24:=g21.size
  refine za (J 0) Z (cS (aD (cT (zg Z (bW Z (Aj (cs:=(kC k A n c)) Ct (H23.ob (i:=2) Z).cl)) (aU call59 (rightK_ _ _ k A n c (hr.st0 (H23.fix (i:=3) Z)) (by omega) (by first | assumption | rfl | omega | decide +kernel) (by first | assumption | rfl | omega | decide +kernel) (by first | assumption | rfl | omega | decide +kernel) (by first | assumption | rfl | omega | decide +kernel)) Z Z Z ?_)))))
  rintro _ w25 ⟨rfl,g26⟩
  have H27:=H23.grow g26
  have z28:=g26.size
  rcases hb29:(Cn k) with _ | _
  ·refine zg Z (bC (b:=false) Z) (cS (aE Z (cT (zg Z (bY (cs:=[(J 0),(J 0),(J 0),(.string (⟨#[]⟩)),(.slice none 0 0)]) bd24 Z) (bE (vs:=[(J 0),(J 0),(J 0),(.string (⟨#[]⟩)),(.slice none 0 0)]) (cs':=[(J 0),(J 0),(J 0),(.string (⟨#[]⟩)),(.slice none 0 0)]) sizeOf24 (H27.ob (i:=0) Z) Z Z Z Z Z Z ?_)))))
   intro w30 hz31 g32 o33
   have H34:Sp [Aa b18 24 [(J 0),(J 0),(J 0),(.string (⟨#[]⟩)),(.slice none 0 0)],Aa b10 33 (rC r A2 n2 c2),Aa b2 24 (kC k A n c),Bd w Bl] w30:=H27.setB (i:=0) rfl g32 o33 rfl
   have z35:=g32.size
   refine za (J 1) Z (cS (aB (aR (aO (v:=(.tuple #[(.agg ([(J 0),(J 0),(J 0),(.string (⟨#[]⟩)),(.slice none 0 0)]).toArray),(J 1)])) (Ch Z (cA Z (Aj (cs:=[(J 0),(J 0),(J 0),(.string (⟨#[]⟩)),(.slice none 0 0)]) Ct (H34.ob (i:=0) Z).cl)) (bZ Z)) ?_))))
   have H36:=H34.nil_ 31 11
   have hfo:Ay k r = _:=fold_e1 hb29
   exact ⟨_,_,_,by first | (rw [hfo]; done) | (rw [hfo]; rfl),by rw [hfo]; exact (H36.sel [0,4] (by decide) Z)⟩
  ·refine zg Z (bC (b:=true) Z) (cS (aF Z (aA (aQ (aD ?_)))))
   refine CW.mid (fun t=>(Nat.ble 6 t && Nat.ble t 7) || (Nat.ble 12 t && Nat.ble t 18)) (fun ρ wl => ∃ (b63:Nat) (x49:Kept) (A50:Option Addr) (n51:Nat) (c52:Nat),ρ 6 = (.pointer (some ⟨b63,0,none⟩))∧ρ 7 = (J ((As k r).1))∧Sp [Aa b63 24 (kC x49 A50 n51 c52),OptA ((As k r).1 = 0) (Ai 31 11 A50 n51 c52 (ents ((As k r).2.ents))),Aa b18 24 [(J 0),(J 0),(J 0),(.string (⟨#[]⟩)),(.slice none 0 0)],Aa b10 33 (rC r A2 n2 c2),Aa b2 24 (kC k A n c),Bd w Bl] wl∧((As k r).1 = 0 → x49 = (As k r).2)) ?_ ?_
   ·refine cN (fun wq=>Sp [Aa b18 24 [(J 0),(J 0),(J 0),(.string (⟨#[]⟩)),(.slice none 0 0)],Aa b10 33 (rC r A2 n2 c2),Aa b2 24 (kC k A n c),Bd w Bl] wq) Tryz.mixed Z ?_
    intro w78 g79
    have H80:=H27.grow g79
    have z81:=g79.size
    refine zr 0 1 Z (by kernel_rfl) H80 (fun wq hq=>bW Z (Aj (cs:=(kC k A n c)) Ct (hq.ob (i:=2) Z).cl)) (zr 2 5 Z (by kernel_rfl) H80 (fun wq hq=>bW Z (Aj (cs:=(rC r A2 n2 c2)) wh33 (hq.ob (i:=1) Z).cl)) ?_)
    refine cP (i:=1) (j:=7) (by kernel_rfl) ?_ ?_
    ·refine ⟨_,7,rfl,by kernel_rfl,?_⟩
     refine aU call24 (own15_ _ w78.heap.size k A n c ((hr.st0 (H80.fix (i:=3) Z)).more (by omega)) (Nat.le_refl _) (by first | assumption | rfl | omega) (by omega)) Z Z Z ?_
     rintro _ w85 ⟨A82,n83,c84,rfl,g86⟩
     have g87:=g86.fix (i:=1) rfl
     have H88:Sp [Ai 31 11 A82 n83 c84 (ents k.ents),Aa b18 24 [(J 0),(J 0),(J 0),(.string (⟨#[]⟩)),(.slice none 0 0)],Aa b10 33 (rC r A2 n2 c2),Aa b2 24 (kC k A n c),Bd w Bl] w85:=H80.join (m:=[Ai 31 11 A82 n83 c84 (ents k.ents)]) g86
     have z89:=g87.size
     refine aM ?_
     refine ⟨(H88.sel [1,2,3,4] (by decide) Z),?_⟩
     refine cP (i:=3) (j:=7) (by kernel_rfl) ?_ ?_
     ·refine ⟨_,15,rfl,by kernel_rfl,?_⟩
      obtain ⟨S95,hS96,hO97,K98⟩:=H88.takeN 1
      refine aU call110 (made_ _ S95 k A82 n83 c84 hS96 r A2 n2 c2 (Cw hO97 (j:=3) Z hr2 (by omega)) (by first | assumption | rfl | omega) (by first | assumption | rfl | omega) hb29) Z Z Z ?_
      rintro _ w99 ⟨x90,A91,n92,c93,rfl,g100,hx94⟩
      have H101:Sp [OptA ((As k r).1 = 0) (Ai 31 11 A91 n92 c93 (ents ((As k r).2.ents))),Aa b18 24 [(J 0),(J 0),(J 0),(.string (⟨#[]⟩)),(.slice none 0 0)],Aa b10 33 (rC r A2 n2 c2),Aa b2 24 (kC k A n c),Bd w Bl] w99:=K98 _ _ g100
      have z102:=(H101.fix (i:=4) rfl).size
      refine aM ?_
      refine ⟨(H101.sel [1,2,3,4] (by decide) Z),?_⟩
      refine zr 4 31 Z (by kernel_rfl) (H101.sel [1,2,3,4] (by decide) Z) (fun wq hq=>aX (v:=(.tuple #[(.agg ((kC x90 A91 n92 c93)).toArray),(J ((As k r).1))])) Z) (zr 5 63 Z (by kernel_rfl) (H101.sel [1,2,3,4] (by decide) Z) (fun wq hq=>bB (vs:=[(.agg ((kC x90 A91 n92 c93)).toArray),(J ((As k r).1))]) (v:=(.agg ((kC x90 A91 n92 c93)).toArray)) Z Z) (zr 6 127 Z (by kernel_rfl) (H101.sel [1,2,3,4] (by decide) Z) (fun wq hq=>bB (vs:=[(.agg ((kC x90 A91 n92 c93)).toArray),(J ((As k r).1))]) (v:=(J ((As k r).1))) Z Z) (cO (i:=7) (by kernel_rfl) ?_)))
      refine ⟨_,255,rfl,by kernel_rfl,?_⟩
      refine bG (cs:=[(J 0),(J 0),(J 0),(.string (⟨#[]⟩)),(.slice none 0 0)]) zeroValue24 Z Z Z ?_
      intro w103 b104 hb105 hz106 g107 o108
      have H109:=H101.newB g107 o108 (by omega)
      have z110:=g107.size
      refine aM ?_
      refine ⟨(H109.sel [2,3,4,5] (by decide) Z),?_⟩
      refine cO (i:=8) (by kernel_rfl) ?_
      refine ⟨_,511,rfl,by kernel_rfl,?_⟩
      refine bE (vs:=(kC x90 A91 n92 c93)) (cs':=(kC x90 A91 n92 c93)) sizeOf24 (H109.ob (i:=0) Z) Z Z Z Z Z Z ?_
      intro w111 hz112 g113 o114
      have H115:Sp [Aa b104 24 (kC x90 A91 n92 c93),OptA ((As k r).1 = 0) (Ai 31 11 A91 n92 c93 (ents ((As k r).2.ents))),Aa b18 24 [(J 0),(J 0),(J 0),(.string (⟨#[]⟩)),(.slice none 0 0)],Aa b10 33 (rC r A2 n2 c2),Aa b2 24 (kC k A n c),Bd w Bl] w111:=H109.setB (i:=0) rfl g113 o114 rfl
      have z116:=g113.size
      refine aM ?_
      refine ⟨(H115.sel [2,3,4,5] (by decide) Z),?_⟩
      refine zr 9 1023 Z (by kernel_rfl) (H115.sel [2,3,4,5] (by decide) Z) (fun wq hq=>aY (v:=(J ((As k r).1))) Z) (cQ (by kernel_rfl) (aQ ?_))
      exact ⟨(by repeat (first | exact aJ _ _ | exact aH _ _ | refine aI ?_ Z _ | refine cR ?_ (by intro t ht; simp only [Bool.or_eq_false_iff,Bool.and_eq_false_iff,ble_f,beq_f] at ht ⊢; omega))),b104,x90,A91,n92,c93,rfl,rfl,(H115.sel [0,1,2,3,4,5] (by decide) Z),hx94⟩
     ·refine ⟨_,135,rfl,by kernel_rfl,?_⟩
      refine bG (cs:=[(J 0),(J 0),(J 0),(.string (⟨#[]⟩)),(.slice none 0 0)]) zeroValue24 Z Z Z ?_
      intro w117 b118 hb119 hz120 g121 o122
      have H123:=H88.newB g121 o122 (by omega)
      have z124:=g121.size
      refine aM ?_
      refine ⟨(H123.sel [2,3,4,5] (by decide) Z),?_⟩
      refine cO (i:=3) (by kernel_rfl) ?_
      refine ⟨_,143,rfl,by kernel_rfl,?_⟩
      obtain ⟨S130,hS131,hO132,K133⟩:=Sp.takeL (l1:=[Ai 31 11 A82 n83 c84 (ents k.ents)]) (l2:=[Aa b118 24 [(J 0),(J 0),(J 0),(.string (⟨#[]⟩)),(.slice none 0 0)],Aa b18 24 [(J 0),(J 0),(J 0),(.string (⟨#[]⟩)),(.slice none 0 0)],Aa b10 33 (rC r A2 n2 c2),Aa b2 24 (kC k A n c),Bd w Bl]) (w:=w117) (H123.sel [1,0,2,3,4,5] (by decide) rfl)
      refine aU call110 (made_ _ S130 k A82 n83 c84 hS131 r A2 n2 c2 (Cw hO132 (j:=4) Z hr2 (by omega)) (by first | assumption | rfl | omega) (by first | assumption | rfl | omega) hb29) Z Z Z ?_
      rintro _ w134 ⟨x125,A126,n127,c128,rfl,g135,hx129⟩
      have H136:Sp [OptA ((As k r).1 = 0) (Ai 31 11 A126 n127 c128 (ents ((As k r).2.ents))),Aa b118 24 [(J 0),(J 0),(J 0),(.string (⟨#[]⟩)),(.slice none 0 0)],Aa b18 24 [(J 0),(J 0),(J 0),(.string (⟨#[]⟩)),(.slice none 0 0)],Aa b10 33 (rC r A2 n2 c2),Aa b2 24 (kC k A n c),Bd w Bl] w134:=K133 _ _ g135
      have z137:=(H136.fix (i:=5) rfl).size
      refine aM ?_
      refine ⟨(H136.sel [2,3,4,5] (by decide) Z),?_⟩
      refine zr 4 159 Z (by kernel_rfl) (H136.sel [2,3,4,5] (by decide) Z) (fun wq hq=>aX (v:=(.tuple #[(.agg ((kC x125 A126 n127 c128)).toArray),(J ((As k r).1))])) Z) (zr 5 191 Z (by kernel_rfl) (H136.sel [2,3,4,5] (by decide) Z) (fun wq hq=>bB (vs:=[(.agg ((kC x125 A126 n127 c128)).toArray),(J ((As k r).1))]) (v:=(.agg ((kC x125 A126 n127 c128)).toArray)) Z Z) (zr 6 255 Z (by kernel_rfl) (H136.sel [2,3,4,5] (by decide) Z) (fun wq hq=>bB (vs:=[(.agg ((kC x125 A126 n127 c128)).toArray),(J ((As k r).1))]) (v:=(J ((As k r).1))) Z Z) (cO (i:=8) (by kernel_rfl) ?_)))
      refine ⟨_,511,rfl,by kernel_rfl,?_⟩
      refine bE (vs:=(kC x125 A126 n127 c128)) (cs':=(kC x125 A126 n127 c128)) sizeOf24 (H136.ob (i:=1) Z) Z Z Z Z Z Z ?_
      intro w138 hz139 g140 o141
      have H142:Sp [OptA ((As k r).1 = 0) (Ai 31 11 A126 n127 c128 (ents ((As k r).2.ents))),Aa b118 24 (kC x125 A126 n127 c128),Aa b18 24 [(J 0),(J 0),(J 0),(.string (⟨#[]⟩)),(.slice none 0 0)],Aa b10 33 (rC r A2 n2 c2),Aa b2 24 (kC k A n c),Bd w Bl] w138:=H136.setB (i:=1) rfl g140 o141 rfl
      have z143:=g140.size
      refine aM ?_
      refine ⟨(H142.sel [2,3,4,5] (by decide) Z),?_⟩
      refine zr 9 1023 Z (by kernel_rfl) (H142.sel [2,3,4,5] (by decide) Z) (fun wq hq=>aY (v:=(J ((As k r).1))) Z) (cQ (by kernel_rfl) (aQ ?_))
      exact ⟨(by repeat (first | exact aJ _ _ | exact aH _ _ | refine aI ?_ Z _ | refine cR ?_ (by intro t ht; simp only [Bool.or_eq_false_iff,Bool.and_eq_false_iff,ble_f,beq_f] at ht ⊢; omega))),b118,x125,A126,n127,c128,rfl,rfl,(H142.sel [1,0,2,3,4,5] (by decide) Z),hx129⟩
    ·refine ⟨_,133,rfl,by kernel_rfl,?_⟩
     refine bG (cs:=[(J 0),(J 0),(J 0),(.string (⟨#[]⟩)),(.slice none 0 0)]) zeroValue24 Z Z Z ?_
     intro w144 b145 hb146 hz147 g148 o149
     have H150:=H80.newB g148 o149 (by omega)
     have z151:=g148.size
     refine aM ?_
     refine ⟨(H150.sel [1,2,3,4] (by decide) Z),?_⟩
     refine cO (i:=1) (by kernel_rfl) ?_
     refine ⟨_,135,rfl,by kernel_rfl,?_⟩
     refine aU call24 (own15_ _ w144.heap.size k A n c ((hr.st0 (H150.fix (i:=4) Z)).more (by omega)) (Nat.le_refl _) (by first | assumption | rfl | omega) (by omega)) Z Z Z ?_
     rintro _ w155 ⟨A152,n153,c154,rfl,g156⟩
     have g157:=g156.fix (i:=1) rfl
     have H158:Sp [Ai 31 11 A152 n153 c154 (ents k.ents),Aa b145 24 [(J 0),(J 0),(J 0),(.string (⟨#[]⟩)),(.slice none 0 0)],Aa b18 24 [(J 0),(J 0),(J 0),(.string (⟨#[]⟩)),(.slice none 0 0)],Aa b10 33 (rC r A2 n2 c2),Aa b2 24 (kC k A n c),Bd w Bl] w155:=H150.join (m:=[Ai 31 11 A152 n153 c154 (ents k.ents)]) g156
     have z159:=g157.size
     refine aM ?_
     refine ⟨(H158.sel [2,3,4,5] (by decide) Z),?_⟩
     refine cO (i:=3) (by kernel_rfl) ?_
     refine ⟨_,143,rfl,by kernel_rfl,?_⟩
     obtain ⟨S165,hS166,hO167,K168⟩:=H158.takeN 1
     refine aU call110 (made_ _ S165 k A152 n153 c154 hS166 r A2 n2 c2 (Cw hO167 (j:=4) Z hr2 (by omega)) (by first | assumption | rfl | omega) (by first | assumption | rfl | omega) hb29) Z Z Z ?_
     rintro _ w169 ⟨x160,A161,n162,c163,rfl,g170,hx164⟩
     have H171:Sp [OptA ((As k r).1 = 0) (Ai 31 11 A161 n162 c163 (ents ((As k r).2.ents))),Aa b145 24 [(J 0),(J 0),(J 0),(.string (⟨#[]⟩)),(.slice none 0 0)],Aa b18 24 [(J 0),(J 0),(J 0),(.string (⟨#[]⟩)),(.slice none 0 0)],Aa b10 33 (rC r A2 n2 c2),Aa b2 24 (kC k A n c),Bd w Bl] w169:=K168 _ _ g170
     have z172:=(H171.fix (i:=5) rfl).size
     refine aM ?_
     refine ⟨(H171.sel [2,3,4,5] (by decide) Z),?_⟩
     refine zr 4 159 Z (by kernel_rfl) (H171.sel [2,3,4,5] (by decide) Z) (fun wq hq=>aX (v:=(.tuple #[(.agg ((kC x160 A161 n162 c163)).toArray),(J ((As k r).1))])) Z) (zr 5 191 Z (by kernel_rfl) (H171.sel [2,3,4,5] (by decide) Z) (fun wq hq=>bB (vs:=[(.agg ((kC x160 A161 n162 c163)).toArray),(J ((As k r).1))]) (v:=(.agg ((kC x160 A161 n162 c163)).toArray)) Z Z) (zr 6 255 Z (by kernel_rfl) (H171.sel [2,3,4,5] (by decide) Z) (fun wq hq=>bB (vs:=[(.agg ((kC x160 A161 n162 c163)).toArray),(J ((As k r).1))]) (v:=(J ((As k r).1))) Z Z) (cO (i:=8) (by kernel_rfl) ?_)))
     refine ⟨_,511,rfl,by kernel_rfl,?_⟩
     refine bE (vs:=(kC x160 A161 n162 c163)) (cs':=(kC x160 A161 n162 c163)) sizeOf24 (H171.ob (i:=1) Z) Z Z Z Z Z Z ?_
     intro w173 hz174 g175 o176
     have H177:Sp [OptA ((As k r).1 = 0) (Ai 31 11 A161 n162 c163 (ents ((As k r).2.ents))),Aa b145 24 (kC x160 A161 n162 c163),Aa b18 24 [(J 0),(J 0),(J 0),(.string (⟨#[]⟩)),(.slice none 0 0)],Aa b10 33 (rC r A2 n2 c2),Aa b2 24 (kC k A n c),Bd w Bl] w173:=H171.setB (i:=1) rfl g175 o176 rfl
     have z178:=g175.size
     refine aM ?_
     refine ⟨(H177.sel [2,3,4,5] (by decide) Z),?_⟩
     refine zr 9 1023 Z (by kernel_rfl) (H177.sel [2,3,4,5] (by decide) Z) (fun wq hq=>aY (v:=(J ((As k r).1))) Z) (cQ (by kernel_rfl) (aQ ?_))
     exact ⟨(by repeat (first | exact aJ _ _ | exact aH _ _ | refine aI ?_ Z _ | refine cR ?_ (by intro t ht; simp only [Bool.or_eq_false_iff,Bool.and_eq_false_iff,ble_f,beq_f] at ht ⊢; omega))),b145,x160,A161,n162,c163,rfl,rfl,(H177.sel [1,0,2,3,4,5] (by decide) Z),hx164⟩
   ·rintro ρc77 w179 ho180 ⟨b63,x49,A50,n51,c52,hs182,hs183,H181,hx53⟩
    obtain ⟨jc77,rfl⟩:=ho180.shape2 hs182 hs183
    clear ho180 hs182 hs183
    have z184:=(H181.fix (i:=5) rfl).size
    refine aQ (aD (cT (zm (J ((As k r).1)) Z ?_)))
    refine zc (((As k r).1:Int) = (0:Int)) Z (fun r hr=>bP Z Z hr) (fun h185=>?_) (fun h185=>?_)
    ·refine zm bT Z ?_
     have H186:Sp [Aa b63 24 (kC x49 A50 n51 c52),Ai 31 11 A50 n51 c52 (ents ((As k r).2.ents)),Aa b18 24 [(J 0),(J 0),(J 0),(.string (⟨#[]⟩)),(.slice none 0 0)],Aa b10 33 (rC r A2 n2 c2),Aa b2 24 (kC k A n c),Bd w Bl] w179:=H181.optE (i:=1) rfl h185 rfl
     have hxx:=hx53 h185
     subst hxx
     have hl187:=H186.len (i:=1) rfl
     rw [Ap] at hl187
     have himg:=made_img k r h185
     refine zg Z (Cv (b:=⟨b63,4,none⟩) Z Z) (zl (.slice A50 n51 c52) lo22 (H186.ob (i:=0) Z) Z (zg Z (bR underlying22 Z) ?_))
     refine zc ((4000:Int) < ((n51:Nat):Int)) Z (fun r hr=>bN Z Z hr) (fun h188=>?_) (fun h188=>?_)
     ·refine zT bT Z (cS (aE Z (aL (za (J 2) Z (cS (aD (cT (zm (J 2) Z (zg Z (bP (r:=false) Z Z (by decide)) (zm bF Z (zo Z (zo Z (zo Z (zF bF Z ?_))))))))))))))
      refine cS (aF Z (aA (aQ (aD (cT (zm (J 2) Z (zg Z (bQ (r:=true) Z Z (by decide)) (cS (aE Z (cT (zg Z (bY (cs:=[(J 0),(J 0),(J 0),(.string (⟨#[]⟩)),(.slice none 0 0)]) bd24 Z) (zm (J 2) Z (bE (vs:=[(J 0),(J 0),(J 0),(.string (⟨#[]⟩)),(.slice none 0 0)]) (cs':=[(J 0),(J 0),(J 0),(.string (⟨#[]⟩)),(.slice none 0 0)]) sizeOf24 (H186.ob (i:=2) Z) Z Z Z Z Z Z ?_)))))))))))))
      intro w189 hz190 g191 o192
      have H193:Sp [Aa b63 24 (kC (As k r).2 A50 n51 c52),Ai 31 11 A50 n51 c52 (ents ((As k r).2.ents)),Aa b18 24 [(J 0),(J 0),(J 0),(.string (⟨#[]⟩)),(.slice none 0 0)],Aa b10 33 (rC r A2 n2 c2),Aa b2 24 (kC k A n c),Bd w Bl] w189:=H186.setB (i:=2) rfl g191 o192 rfl
      have z194:=g191.size
      refine za (J 2) Z (cS (aB (aR (aO (v:=(.tuple #[(.agg ([(J 0),(J 0),(J 0),(.string (⟨#[]⟩)),(.slice none 0 0)]).toArray),(J 2)])) (Ch Z (cA Z (Aj (cs:=[(J 0),(J 0),(J 0),(.string (⟨#[]⟩)),(.slice none 0 0)]) Ct (H193.ob (i:=2) Z).cl)) (bZ Z)) ?_))))
      have H195:=H193.nil_ 31 11
      have hfo:Ay k r = _:=fold_e3 hb29 h185 (by omega)
      exact ⟨_,_,_,by first | (rw [hfo]; done) | (rw [hfo]; rfl),by rw [hfo]; exact (H195.sel [0,6] (by decide) Z)⟩
     ·refine zT bF Z (cS (aF Z (aA (aQ (aD (cT (zm (J ((As k r).1)) Z (zg Z (bP (r:=true) Z Z (decide_eq_true (by omega))) (zm bT Z (zg Z (bW Z (Aj (cs:=(kC (As k r).2 A50 n51 c52)) Ct (H186.ob (i:=0) Z).cl)) ?_))))))))))
      have hl196:=H186.len (i:=1) rfl
      rw [Ap] at hl196
      have hc197:=H186.cap (i:=1) rfl
      refine aU call59 (rightK_ _ _ (As k r).2 A50 n51 c52 (H186.rowrd (i:=1) Z) (Nat.le_refl _) (by first | assumption | rfl | omega | decide +kernel) (by first | assumption | rfl | omega | decide +kernel) (by first | assumption | rfl | omega | decide +kernel) (by first | assumption | rfl | omega | decide +kernel)) Z Z Z ?_
      rintro _ w198 ⟨rfl,g199⟩
      have H200:=H186.grow g199
      have z201:=g199.size
      rcases hb202:(Cn (As k r).2) with _ | _
      ·refine zg Z (bC (b:=false) Z) (zT bT Z (cS (aE Z (aL (za (J 141) Z (cS (aD (cT (zm (J 141) Z (zg Z (bQ (r:=true) Z Z (by decide)) (cS (aE Z (cT (zg Z (bY (cs:=[(J 0),(J 0),(J 0),(.string (⟨#[]⟩)),(.slice none 0 0)]) bd24 Z) (zm (J 141) Z (bE (vs:=[(J 0),(J 0),(J 0),(.string (⟨#[]⟩)),(.slice none 0 0)]) (cs':=[(J 0),(J 0),(J 0),(.string (⟨#[]⟩)),(.slice none 0 0)]) sizeOf24 (H200.ob (i:=2) Z) Z Z Z Z Z Z ?_))))))))))))))))
       intro w203 hz204 g205 o206
       have H207:Sp [Aa b63 24 (kC (As k r).2 A50 n51 c52),Ai 31 11 A50 n51 c52 (ents ((As k r).2.ents)),Aa b18 24 [(J 0),(J 0),(J 0),(.string (⟨#[]⟩)),(.slice none 0 0)],Aa b10 33 (rC r A2 n2 c2),Aa b2 24 (kC k A n c),Bd w Bl] w203:=H200.setB (i:=2) rfl g205 o206 rfl
       have z208:=g205.size
       refine za (J 141) Z (cS (aB (aR (aO (v:=(.tuple #[(.agg ([(J 0),(J 0),(J 0),(.string (⟨#[]⟩)),(.slice none 0 0)]).toArray),(J 141)])) (Ch Z (cA Z (Aj (cs:=[(J 0),(J 0),(J 0),(.string (⟨#[]⟩)),(.slice none 0 0)]) Ct (H207.ob (i:=2) Z).cl)) (bZ Z)) ?_))))
       have H209:=H207.nil_ 31 11
       have hfo:Ay k r = _:=fold_e4 hb29 h185 (by omega) hb202
       exact ⟨_,_,_,by first | (rw [hfo]; done) | (rw [hfo]; rfl),by rw [hfo]; exact (H209.sel [0,6] (by decide) Z)⟩
      ·refine zg Z (bC (b:=true) Z) (zT bF Z (cS (aF Z (aA (aQ (aD (cT (zm (J ((As k r).1)) Z (zg Z (bQ (r:=false) Z Z (decide_eq_false (by omega))) (cS (aF Z (aA (aQ (cT (zg Z (bW Z (Aj (cs:=(kC (As k r).2 A50 n51 c52)) Ct (H200.ob (i:=0) Z).cl)) (bE (vs:=(kC (As k r).2 A50 n51 c52)) (cs':=(kC (As k r).2 A50 n51 c52)) sizeOf24 (H200.ob (i:=2) Z) Z Z Z Z Z Z ?_))))))))))))))))
       intro w210 hz211 g212 o213
       have H214:Sp [Aa b63 24 (kC (As k r).2 A50 n51 c52),Ai 31 11 A50 n51 c52 (ents ((As k r).2.ents)),Aa b18 24 (kC (As k r).2 A50 n51 c52),Aa b10 33 (rC r A2 n2 c2),Aa b2 24 (kC k A n c),Bd w Bl] w210:=H200.setB (i:=2) rfl g212 o213 rfl
       have z215:=g212.size
       refine za (J 0) Z (cS (aB (aO (v:=(.tuple #[(.agg ((kC (As k r).2 A50 n51 c52)).toArray),(J 0)])) (Ch Z (cA Z (Aj (cs:=(kC (As k r).2 A50 n51 c52)) Ct (H214.ob (i:=2) Z).cl)) (bZ Z)) ?_)))
       have hfo:Ay k r = _:=fold_e5 hb29 h185 (by omega) hb202
       exact ⟨_,_,_,by first | (rw [hfo]; done) | (rw [hfo]; rfl),by rw [hfo]; exact (H214.sel [1,5] (by decide) Z)⟩
    ·refine zm bF Z (zo Z (zo Z (zo Z (zo Z (zF bF Z (cS (aF Z (aA (aQ (aD (cT (zm (J ((As k r).1)) Z (zg Z (bP (r:=false) Z Z (decide_eq_false (by omega))) (zm bF Z (zo Z ?_)))))))))))))))
     refine zo Z (zo Z (zF bF Z (cS (aF Z (aA (aQ (aD (cT (zm (J ((As k r).1)) Z (zg Z (bQ (r:=true) Z Z (decide_eq_true (by omega))) (cS (aE Z (cT (zg Z (bY (cs:=[(J 0),(J 0),(J 0),(.string (⟨#[]⟩)),(.slice none 0 0)]) bd24 Z) (zm (J ((As k r).1)) Z (bE (vs:=[(J 0),(J 0),(J 0),(.string (⟨#[]⟩)),(.slice none 0 0)]) (cs':=[(J 0),(J 0),(J 0),(.string (⟨#[]⟩)),(.slice none 0 0)]) sizeOf24 (H181.ob (i:=2) Z) Z Z Z Z Z Z ?_))))))))))))))))
     intro w216 hz217 g218 o219
     have H220:Sp [Aa b63 24 (kC x49 A50 n51 c52),OptA ((As k r).1 = 0) (Ai 31 11 A50 n51 c52 (ents ((As k r).2.ents))),Aa b18 24 [(J 0),(J 0),(J 0),(.string (⟨#[]⟩)),(.slice none 0 0)],Aa b10 33 (rC r A2 n2 c2),Aa b2 24 (kC k A n c),Bd w Bl] w216:=H181.setB (i:=2) rfl g218 o219 rfl
     have z221:=g218.size
     refine za (J ((As k r).1)) Z (cS (aB (aR (aO (v:=(.tuple #[(.agg ([(J 0),(J 0),(J 0),(.string (⟨#[]⟩)),(.slice none 0 0)]).toArray),(J ((As k r).1))])) (Ch Z (cA Z (Aj (cs:=[(J 0),(J 0),(J 0),(.string (⟨#[]⟩)),(.slice none 0 0)]) Ct (H220.ob (i:=2) Z).cl)) (bZ Z)) ?_))))
     have H222:=H220.nil_ 31 11
     have hfo:Ay k r = _:=fold_e2 hb29 h185
     exact ⟨_,_,_,by first | (rw [hfo]; done) | (rw [hfo]; rfl),by rw [hfo]; exact (H222.sel [0,6] (by decide) Z)⟩
set_option maxHeartbeats 400000 in
set_option maxRecDepth 20000 in
theorem over15_ (w : World) (S : Nat → Prop) (A : Option Addr) (n c : Nat) (k : Kept) (hS : (AllA [Ai 31 11 A n c (ents k.ents)]).ok S w) : Ret prog 42 [(.agg ((kC k A n c)).toArray)] w (fun v w' => ∃ l' : List Entry, v = .tuple #[] ∧ Sp ([Ai 31 11 A n c (ents l')] ++ [Bd w S]) w') := by
  have H0:=Sp.startL hS
  have hln:=H0.len (i:=0) rfl
  rw [Ap] at hln
  have hnm:n ≤ 9223372036854775807:=H0.max (i:=0) rfl
  have H0:Sp [Ai 31 11 A n c (ents k.ents),Bd w S] w:=H0
  refine aP func42 Z Z Z ?_
  refine cT (bH (cs:=(kC k A n c)) Z Z Z ?_)
  intro w1 b2 hb3 hz4 g5 o6
  have H7:=H0.newB g5 o6 (by omega)
  have z8:=g5.size
  refine cS (cT (za (J 0) Z (cS (aG ?_))))
  refine aK (fun t=>(Nat.ble 2 t && Nat.ble t 14)) (fun nL ρ wl => ∃ (i:Nat) (l1:List Entry),ρ 2 = (J (i:Int))∧nL = n - i∧Sp [Aa b2 24 (kC k A n c),Ai 31 11 A n c (ents l1),Bd w S] wl∧i ≤ n∧l1.length = n) (n) ?aa0 ?bb0
  case aa0 =>
   exact ⟨0,k.ents,rfl,rfl,H7,Nat.zero_le _,hln⟩
  case bb0 =>
   rintro n10 ρ0 w9 ho11 ⟨i,l1,hs0_2,hn0,H12,hi,hl1⟩
   obtain ⟨j0,rfl⟩:=ho11.shape1 hs0_2
   clear ho11 hs0_2
   subst hn0
   have z13:=(H12.chg (i:=2) rfl).size
   refine aD (cT (zm (J (i:Int)) Z (zg Z (Cv (b:=⟨b2,4,none⟩) Z Z) (zl (.slice A n c) lo22 (H12.ob (i:=0) Z) Z (zg Z (bR underlying22 Z) ?_)))))
   refine zc (((i:Int):Int) < ((n:Nat):Int)) Z (fun r hr=>bL Z Z hr) (fun h14=>?_) (fun h14=>?_)
   ·refine cS (aE Z (aA (aQ (aD (aG (aL (zg Z (Cv (b:=⟨b2,4,none⟩) Z Z) (zl (.slice A n c) lo22 (H12.ob (i:=0) Z) Z (zm (J (i:Int)) Z ?_)))))))))
    obtain ⟨e15,he16⟩ : ∃ e,(l1)[i]? = some e:=⟨_,List.getElem?_eq_getElem (by omega)⟩
    obtain ⟨ad17,hA18⟩:=Rd.sm (H12.rowrd (i:=1) rfl) (Di he16)
    have hl19:=Eng.lt_len (Di he16)
    refine zg Z (bS (b:=(ad17.add (i * 11))) (i:=i) underlying22 sizeOf31 (by rw [← hA18]; rfl) Z (by omega) (by omega) Z) (zg Z (fa31_0 (b:=((ad17.add (i * 11)))) Z Z) (RL.stE (vs:=[(J (-77))]) (x2:=[(J (-77)),(J e15.view),(J e15.client),(J e15.seq),(J e15.op.kind),(J e15.op.h),(J e15.op.i),(J e15.op.n),(J e15.op.k),(J e15.op.v),(J e15.op.t)]) (off:=0) sizeOf3 (H12.wr (i:=1) Z) hA18 (Di he16) Z Z Z Z Z Z ?_))
    intro w20 g21 ow22
    have H23:Sp [Aa b2 24 (kC k A n c),Ai 31 11 A n c (ents (l1.set i { e15 with num := -77 })),Bd w S] w20:=H12.setR (i:=1) rfl (by rw [own_bk]; exact g21) ((ents_set _ _ { e15 with num := -77 }) ▸ ow22) (Nx.refl_ _ _) rfl
    have z24:=g21.size
    refine aM (inB.n (aQ (aL (zm (J (i:Int)) Z (zg Z (bI (r:=(i:Int) + 1) Z Z (Dl (by omega) (by omega))) (za (J ((i:Int) + 1)) Z (cS ?_)))))))
    refine ⟨(by repeat (first | exact aJ _ _ | exact aH _ _ | refine aI ?_ rfl _)),_,?_,i + 1,(l1.set i { e15 with num := -77 }),rfl,rfl,H23,by omega,by rw [List.length_set]; exact hl1⟩
    omega
   ·refine cS (aF Z (aC (aS (aS (Bo (finQ.n (v:=(.tuple #[])) (res0 Z) ?_))))))
    exact ⟨_,rfl,(H12.sel [1,2] (by decide) Z)⟩
end Go.Proofs.YtfokljnhllflbaaGreat
namespace Go.Proofs.YtfokljnhllflbaaGreat
open Go Go.Eng Go.RowKit Go.Proofs.Tryz
set_option maxHeartbeats 2000000 in
set_option maxRecDepth 20000 in
theorem oplogFolds_ (w:World) (B:Nat) (k:Kept) (A:Option Addr) (n c:Nat) (hr:Rd w B 11 A (ents k.ents)) (hB:B ≤ w.heap.size) (hn:n = k.ents.length) (hc:n ≤ c) (r:Rec) (A2:Option Addr) (n2 c2:Nat) (hr2:Rd w B 11 A2 (ents r.ents)) (hn2:n2 = r.ents.length) (hc2:n2 ≤ c2):Ret prog 5 [(.agg ((kC k A n c)).toArray),(.agg ((rC r A2 n2 c2)).toArray)] w (fun v w'=>v = .bool true∧w.grownBy w' none):=by
  have H0:Sp [Bd w Bl] w:=Bv w
  refine aP func5 Z Z Z ?_
  refine cT (bH (cs:=(kC k A n c)) Z Z Z ?_)
  intro w1 b2 hb3 hz4 g5 o6
  have H7:=H0.newB g5 o6 (by omega)
  have z8:=g5.size
  refine bH (cs:=(rC r A2 n2 c2)) Z Z Z ?_
  intro w9 b10 hb11 hz12 g13 o14
  have H15:=H7.newB g13 o14 (by omega)
  have z16:=g13.size
  refine za bF Z (cS (aD (cT (zg Z (bW Z (Aj (cs:=(kC k A n c)) Ct (H15.ob (i:=1) Z).cl)) (zg Z (bW Z (Aj (cs:=(rC r A2 n2 c2)) wh33 (H15.ob (i:=0) Z).cl)) (aU call23 (big15 _ k A n c (by first | assumption | rfl | omega) r A2 n2 c2 (by first | assumption | rfl | omega)) Z Z Z ?_))))))
  rintro _ w17 ⟨rfl,g18⟩
  have H19:=H15.grow g18
  have z20:=g18.size
  rcases hb21:(bigK k r) with _ | _
  ·obtain ⟨hbg1,hbg2,hbg3,hbg4⟩:=bigK_f hb21
   refine cS (aF Z (aA (aQ (cT ?_))))
   have hbl:r.ents.length ≤ 300:=hbg2
   refine zg Z (bW Z (Aj (cs:=(kC k A n c)) Ct (H19.ob (i:=1) Z).cl)) (aU call24 (own15_ _ w17.heap.size k A n c ((hr.st0 (H19.fix (i:=2) Z)).more (by omega)) (Nat.le_refl _) (by first | assumption | rfl | omega) (by omega)) Z Z Z ?_)
   rintro _ w25 ⟨A22,n23,c24,rfl,g26⟩
   have g27:=g26.fix (i:=1) rfl
   have H28:Sp [Ai 31 11 A22 n23 c24 (ents k.ents),Aa b10 33 (rC r A2 n2 c2),Aa b2 24 (kC k A n c),Bd w Bl] w25:=H19.join (m:=[Ai 31 11 A22 n23 c24 (ents k.ents)]) g26
   have z29:=g27.size
   refine bG (cs:=[(J 0),(J 0),(J 0),(.string (⟨#[]⟩)),(.slice none 0 0)]) zeroValue24 Z Z Z ?_
   intro w30 b31 hb32 hz33 g34 o35
   have H36:=H28.newB g34 o35 (by omega)
   have z37:=g34.size
   refine bE (vs:=(kC k A22 n23 c24)) (cs':=(kC k A22 n23 c24)) sizeOf24 (H36.ob (i:=0) Z) Z Z Z Z Z Z ?_
   intro w38 hz39 g40 o41
   have H42:Sp [Aa b31 24 (kC k A22 n23 c24),Ai 31 11 A22 n23 c24 (ents k.ents),Aa b10 33 (rC r A2 n2 c2),Aa b2 24 (kC k A n c),Bd w Bl] w38:=H36.setB (i:=0) rfl g40 o41 rfl
   have z43:=g40.size
   refine cS (cT (zg Z (bW Z (Aj (cs:=(rC r A2 n2 c2)) wh33 (H42.ob (i:=2) Z).cl)) (aU call39 (ownRec_ _ w38.heap.size r A2 n2 c2 ((hr2.st0 (H42.fix (i:=4) Z)).more (by omega)) (Nat.le_refl _) (by first | assumption | rfl | omega) (by omega)) Z Z Z ?_)))
   rintro _ w47 ⟨A44,n45,c46,rfl,g48⟩
   have g49:=g48.fix (i:=1) rfl
   have H50:Sp [Ai 31 11 A44 n45 c46 (ents r.ents),Aa b31 24 (kC k A22 n23 c24),Ai 31 11 A22 n23 c24 (ents k.ents),Aa b10 33 (rC r A2 n2 c2),Aa b2 24 (kC k A n c),Bd w Bl] w47:=H42.join (m:=[Ai 31 11 A44 n45 c46 (ents r.ents)]) g48
   have z51:=g49.size
   refine bG (cs:=[(J 0),(J 0),(J 0),(J 0),(.string (⟨#[]⟩)),(J 0),(J 0),(J 0),(J 0),(J 0),(J 0),(J 0),(J 0),(J 0),(J 0),(J 0),(.slice none 0 0)]) zeroValue33 Z Z Z ?_
   intro w52 b53 hb54 hz55 g56 o57
   have H58:=H50.newB g56 o57 (by omega)
   have z59:=g56.size
   refine bE (vs:=(rC r A44 n45 c46)) (cs':=(rC r A44 n45 c46)) sizeOf33 (H58.ob (i:=0) Z) Z Z Z Z Z Z ?_
   intro w60 hz61 g62 o63
   have H65:Sp [Aa b53 33 (rC r A44 n45 c46),Ai 31 11 A44 n45 c46 (ents r.ents),Aa b31 24 (kC k A22 n23 c24),Ai 31 11 A22 n23 c24 (ents k.ents),Aa b10 33 (rC r A2 n2 c2),Aa b2 24 (kC k A n c),Bd w Bl] w60:=H58.setB (i:=0) rfl g62 o63 rfl
   have z66:=g62.size
   refine cS (cT (zg Z (bW Z (Aj (cs:=(kC k A n c)) Ct (H65.ob (i:=5) Z).cl)) (zg Z (bW Z (Aj (cs:=(rC r A2 n2 c2)) wh33 (H65.ob (i:=4) Z).cl)) (aU call40 (Fold_ _ w60.heap.size k A n c ((hr.st0 (H65.fix (i:=6) Z)).more (by omega)) (by omega) (by first | assumption | rfl | omega | decide +kernel) (by first | assumption | rfl | omega | decide +kernel) (by first | assumption | rfl | omega | decide +kernel) (by first | assumption | rfl | omega | decide +kernel) r A2 n2 c2 ((hr2.st0 (H65.fix (i:=6) Z)).more (by omega)) (by first | assumption | rfl | omega | decide +kernel) (by first | assumption | rfl | omega | decide +kernel) (by first | assumption | rfl | omega | decide +kernel) (by first | assumption | rfl | omega | decide +kernel)) Z Z Z ?_))))
   rintro _ w70 ⟨A67,n68,c69,rfl,g71⟩
   have g72:=g71.fix (i:=1) rfl
   have H73:Sp [Ai 31 11 A67 n68 c69 (ents ((Ay k r).2.ents)),Aa b53 33 (rC r A44 n45 c46),Ai 31 11 A44 n45 c46 (ents r.ents),Aa b31 24 (kC k A22 n23 c24),Ai 31 11 A22 n23 c24 (ents k.ents),Aa b10 33 (rC r A2 n2 c2),Aa b2 24 (kC k A n c),Bd w Bl] w70:=H65.join (m:=[Ai 31 11 A67 n68 c69 (ents ((Ay k r).2.ents))]) g71
   have z74:=g72.size
   refine zm (.tuple #[(.agg ((kC ((Ay k r).2) A67 n68 c69)).toArray),(J ((Ay k r).1))]) Z (zx (.agg ((kC ((Ay k r).2) A67 n68 c69)).toArray) Z (zx (J ((Ay k r).1)) Z (bG (cs:=[(J 0),(J 0),(J 0),(.string (⟨#[]⟩)),(.slice none 0 0)]) zeroValue24 Z Z Z ?_)))
   intro w75 b76 hb77 hz78 g79 o80
   have H81:=H73.newB g79 o80 (by omega)
   have z82:=g79.size
   refine bE (vs:=(kC ((Ay k r).2) A67 n68 c69)) (cs':=(kC ((Ay k r).2) A67 n68 c69)) sizeOf24 (H81.ob (i:=0) Z) Z Z Z Z Z Z ?_
   intro w83 hz84 g85 o86
   have H87:Sp [Aa b76 24 (kC ((Ay k r).2) A67 n68 c69),Ai 31 11 A67 n68 c69 (ents ((Ay k r).2.ents)),Aa b53 33 (rC r A44 n45 c46),Ai 31 11 A44 n45 c46 (ents r.ents),Aa b31 24 (kC k A22 n23 c24),Ai 31 11 A22 n23 c24 (ents k.ents),Aa b10 33 (rC r A2 n2 c2),Aa b2 24 (kC k A n c),Bd w Bl] w83:=H81.setB (i:=0) rfl g85 o86 rfl
   have z88:=g85.size
   refine za (J ((Ay k r).1)) Z (cS (cT (zg Z (bW Z (Aj (cs:=(kC k A22 n23 c24)) Ct (H87.ob (i:=4) Z).cl)) (zg Z (bW Z (Aj (cs:=(rC r A44 n45 c46)) wh33 (H87.ob (i:=2) Z).cl)) ?_))))
   have hl89:=H87.len (i:=5) rfl
   rw [Ap] at hl89
   have hl90:=H87.len (i:=3) rfl
   rw [Ap] at hl90
   have hl91:=H87.len (i:=5) rfl
   rw [Ap] at hl91
   have hc92:=H87.cap (i:=5) rfl
   have hc96:=H87.cap (i:=3) rfl
   refine aU call41 (foldR_ _ w83.heap.size k A22 n23 c24 ((H87.rowrd (i:=5) Z).more (Nat.le_refl _)) (Nat.le_refl _) (by first | assumption | rfl | omega) (by omega) (by first | assumption | rfl | omega) (by omega) r A44 n45 c46 ((H87.rowrd (i:=3) Z).more (Nat.le_refl _)) (by first | assumption | rfl | omega) (by first | assumption | rfl | omega) (by first | assumption | rfl | omega) (by omega) (by omega) (by omega)) Z Z Z ?_
   rintro _ w97 ⟨A93,n94,c95,rfl,g98⟩
   have g99:=g98.fix (i:=1) rfl
   have H100:Sp [Ai 31 11 A93 n94 c95 (ents ((Ay k r).2.ents)),Aa b76 24 (kC ((Ay k r).2) A67 n68 c69),Ai 31 11 A67 n68 c69 (ents ((Ay k r).2.ents)),Aa b53 33 (rC r A44 n45 c46),Ai 31 11 A44 n45 c46 (ents r.ents),Aa b31 24 (kC k A22 n23 c24),Ai 31 11 A22 n23 c24 (ents k.ents),Aa b10 33 (rC r A2 n2 c2),Aa b2 24 (kC k A n c),Bd w Bl] w97:=H87.join (m:=[Ai 31 11 A93 n94 c95 (ents ((Ay k r).2.ents))]) g98
   have z101:=g99.size
   refine zm (.tuple #[(.agg ((kC ((Ay k r).2) A93 n94 c95)).toArray),(J ((Ay k r).1))]) Z (zx (.agg ((kC ((Ay k r).2) A93 n94 c95)).toArray) Z (zx (J ((Ay k r).1)) Z (bG (cs:=[(J 0),(J 0),(J 0),(.string (⟨#[]⟩)),(.slice none 0 0)]) zeroValue24 Z Z Z ?_)))
   intro w102 b103 hb104 hz105 g106 o107
   have H108:=H100.newB g106 o107 (by omega)
   have z109:=g106.size
   refine bE (vs:=(kC ((Ay k r).2) A93 n94 c95)) (cs':=(kC ((Ay k r).2) A93 n94 c95)) sizeOf24 (H108.ob (i:=0) Z) Z Z Z Z Z Z ?_
   intro w110 hz111 g112 o113
   have H114:Sp [Aa b103 24 (kC ((Ay k r).2) A93 n94 c95),Ai 31 11 A93 n94 c95 (ents ((Ay k r).2.ents)),Aa b76 24 (kC ((Ay k r).2) A67 n68 c69),Ai 31 11 A67 n68 c69 (ents ((Ay k r).2.ents)),Aa b53 33 (rC r A44 n45 c46),Ai 31 11 A44 n45 c46 (ents r.ents),Aa b31 24 (kC k A22 n23 c24),Ai 31 11 A22 n23 c24 (ents k.ents),Aa b10 33 (rC r A2 n2 c2),Aa b2 24 (kC k A n c),Bd w Bl] w110:=H108.setB (i:=0) rfl g112 o113 rfl
   have z115:=g112.size
   refine za (J ((Ay k r).1)) Z (cS (aD ?_))
   have hfl:=Dg k r
   refine aL (zm (J ((Ay k r).1)) Z (zm (J ((Ay k r).1)) Z (zg Z (bP (r:=true) Z Z (decide_eq_true (Z))) (zm bT Z (zg Z (bW Z (Aj (cs:=(kC ((Ay k r).2) A67 n68 c69)) Ct (H114.ob (i:=2) Z).cl)) (zg Z (bW Z (Aj (cs:=(kC ((Ay k r).2) A93 n94 c95)) Ct (H114.ob (i:=0) Z).cl)) ?_))))))
   have hl116:=H114.len (i:=3) rfl
   rw [Ap] at hl116
   have hl117:=H114.len (i:=1) rfl
   rw [Ap] at hl117
   refine aU call30 ((Ret.sure (same15_ _ w110.heap.size (Ay k r).2 (Ay k r).2 A67 A93 n68 c69 n94 c95 ((H114.rowrd (i:=3) Z).more (Nat.le_refl _)) ((H114.rowrd (i:=1) Z).more (Nat.le_refl _)) (Nat.le_refl _) (by first | assumption | rfl | omega) (by first | assumption | rfl | omega) (by omega)) (decide_eq_true Z))) Z Z Z ?_
   rintro _ w118 ⟨rfl,g119⟩
   have H120:=H114.grow g119
   have z121:=g119.size
   refine zT bT Z (za bT Z (cS (cT (zg Z (bW Z (Aj (cs:=(kC ((Ay k r).2) A67 n68 c69)) Ct (H120.ob (i:=2) Z).cl)) ?_))))
   obtain ⟨S123,hS124,hO125,K126⟩:=Sp.takeL (l1:=[Ai 31 11 A67 n68 c69 (ents ((Ay k r).2.ents))]) (l2:=[Aa b103 24 (kC ((Ay k r).2) A93 n94 c95),Ai 31 11 A93 n94 c95 (ents ((Ay k r).2.ents)),Aa b76 24 (kC ((Ay k r).2) A67 n68 c69),Aa b53 33 (rC r A44 n45 c46),Ai 31 11 A44 n45 c46 (ents r.ents),Aa b31 24 (kC k A22 n23 c24),Ai 31 11 A22 n23 c24 (ents k.ents),Aa b10 33 (rC r A2 n2 c2),Aa b2 24 (kC k A n c),Bd w Bl]) (w:=w118) (H120.sel [3,0,1,2,4,5,6,7,8,9,10] (by decide) rfl)
   refine aU call42 (over15_ _ S123 A67 n68 c69 (Ay k r).2 hS124) Z Z Z ?_
   rintro _ w127 ⟨l122,rfl,g128⟩
   have H129:Sp [Ai 31 11 A67 n68 c69 (ents l122),Aa b103 24 (kC ((Ay k r).2) A93 n94 c95),Ai 31 11 A93 n94 c95 (ents ((Ay k r).2.ents)),Aa b76 24 (kC ((Ay k r).2) A67 n68 c69),Aa b53 33 (rC r A44 n45 c46),Ai 31 11 A44 n45 c46 (ents r.ents),Aa b31 24 (kC k A22 n23 c24),Ai 31 11 A22 n23 c24 (ents k.ents),Aa b10 33 (rC r A2 n2 c2),Aa b2 24 (kC k A n c),Bd w Bl] w127:=K126 _ _ g128
   have z130:=(H129.fix (i:=10) rfl).size
   refine cS (cT (aU call43 (folds15 _) Z Z Z ?_))
   rintro _ w131 ⟨rfl,g132⟩
   have H133:=H129.grow g132
   have z134:=g132.size
   refine zm bT Z (zm bT Z (zT bT Z (zm bT Z (zg Z (bW Z (Aj (cs:=(kC k A n c)) Ct (H133.ob (i:=9) Z).cl)) (zg Z (bW Z (Aj (cs:=(kC k A22 n23 c24)) Ct (H133.ob (i:=6) Z).cl)) ?_)))))
   have hl135:=H133.len (i:=7) rfl
   rw [Ap] at hl135
   refine aU call30 ((Ret.sure (same15_ _ w131.heap.size k k A A22 n c n23 c24 ((hr.st0 (H133.fix (i:=10) Z)).more (by omega)) ((H133.rowrd (i:=7) Z).more (Nat.le_refl _)) (Nat.le_refl _) (by first | assumption | rfl | omega) (by first | assumption | rfl | omega) (by omega)) (decide_eq_true Z))) Z Z Z ?_
   rintro _ w136 ⟨rfl,g137⟩
   have H138:=H133.grow g137
   have z139:=g137.size
   refine zT bT Z (zm bT Z (zg Z (bW Z (Aj (cs:=(rC r A2 n2 c2)) wh33 (H138.ob (i:=8) Z).cl)) (zg Z (bW Z (Aj (cs:=(rC r A44 n45 c46)) wh33 (H138.ob (i:=4) Z).cl)) ?_)))
   have hl140:=H138.len (i:=5) rfl
   rw [Ap] at hl140
   refine aU call27 ((Ret.sure (sameRec_ _ w136.heap.size r r A2 A44 n2 c2 n45 c46 ((hr2.st0 (H138.fix (i:=10) Z)).more (by omega)) ((H138.rowrd (i:=5) Z).more (Nat.le_refl _)) (Nat.le_refl _) (by first | assumption | rfl | omega) (by first | assumption | rfl | omega) (by omega)) (decide_eq_true Z))) Z Z Z ?_
   rintro _ w141 ⟨rfl,g142⟩
   have H143:=H138.grow g142
   have z144:=g142.size
   refine zT bT Z (za bT Z (cS (aB (aO (v:=bT) (Ba Z Z) ?_))))
   exact ⟨Z,(H143.fix (i:=10) Z)⟩
  ·refine cS (aE Z (cT (za bT Z (cS (aB (aR (aO (v:=bT) (Ba Z Z) ?_)))))))
   exact ⟨Z,(H19.fix (i:=2) Z)⟩
end Go.Proofs.YtfokljnhllflbaaGreat
namespace Go.Proofs.YtfokljnhllflbaaGreat
open Go Go.Proofs.Tryz
set_option maxRecDepth 100000
def sp:Char:=Char.ofNat 32
theorem ws_app (r:List Char) : ∀ (a:List Char),(a.all fun c=>c != sp) = true → wordsSigns (a ++ sp :: r) = a :: wordsSigns r
  | [],_=>rfl
  | c :: a,h=>by
    simp only [List.all_cons,Bool.and_eq_true,bne_iff_ne,ne_eq] at h
    have ih:=ws_app r a h.2
    rw [List.cons_append]
    conv=>lhs; unfold wordsSigns
    split
    · rename_i e; cases e
    · rename_i e; injection e with e1 _; exact absurd e1 h.1
    · rename_i c' r' hne e
      injection e with e1 e2
      subst e1
      rw [← e2,ih]
theorem io_eq : prog.initOrder.toList = "harness".toList ++ sp :: ("e992cc6d704afc89758aaf8fd9a77071690771db51468eeba60045f0eed610c9".toList ++ sp :: ("cut".toList ++ sp :: prog.initOrder.toList.drop 77)) := by kernel_rfl
theorem io_words : behindMainWord (wordsSigns prog.initOrder.toList) = "cut".toList :: wordsSigns (prog.initOrder.toList.drop 77) := by
  rw [io_eq,ws_app _ _ (by decide),ws_app _ _ (by decide),ws_app _ _ (by decide)]
  rw [← io_eq]
  generalize wordsSigns (prog.initOrder.toList.drop 77) = ws
  show (if (("harness".toList == "harness".toList || "harness".toList == "ownmain".toList) && isSumSigns "e992cc6d704afc89758aaf8fd9a77071690771db51468eeba60045f0eed610c9".toList) = true then "cut".toList :: ws else "harness".toList :: "e992cc6d704afc89758aaf8fd9a77071690771db51468eeba60045f0eed610c9".toList :: "cut".toList :: ws) = _
  rw [if_pos (by decide)]
theorem sl (ws : List (List Char)) : stripLifts liftWords ("cut".toList :: ws) = ([], "cut".toList :: ws) := by
  unfold liftWords
  simp only [stripLifts]
  rfl
theorem hl:prog.headLifts = []:=by unfold Program.headLifts; rw [io_words,sl]; rfl
theorem jf_later:prog.laysLater = false:=by kernel_rfl
theorem jf_refl:prog.bearsReflect = false:=by kernel_rfl
theorem jf_rows:prog.doorRows = []:=by kernel_rfl
theorem jf_door:prog.doorFits [] = true:=by unfold Program.doorFits; rw [jf_rows]; rfl
theorem jf_may:prog.mayEnter = true:=by
  unfold Program.mayEnter
  rw [io_words]
  generalize wordsSigns (prog.initOrder.toList.drop 77) = ws
  have e:=sl ws
  simp only [e,jf_later,jf_refl,jf_door]
  simp
theorem jf_lift:prog.liftsFinal = false:=by
  unfold Program.liftsFinal
  rw [io_words,hl]
  generalize wordsSigns (prog.initOrder.toList.drop 77) = ws
  rfl
theorem jf_make:prog.make = some .cut:=by
  unfold Program.make
  rw [io_words]
  generalize wordsSigns (prog.initOrder.toList.drop 77) = ws
  rfl
end Go.Proofs.YtfokljnhllflbaaGreat
namespace Go.Proofs.YtfokljnhllflbaaGreat
open Go Go.Proofs.Tryz
set_option maxRecDepth 100000
theorem jf_oplogFolds0:(Rows.oplogFoldsRow.wf (OpenSpec.ofChange Rows.oplogFoldsSpec)) = true:=by kernel_rfl
theorem jf_oplogFolds1:(laidOutB prog) = true:=by kernel_rfl
theorem jf_oplogFolds2:(mapsRowed prog) = true:=by kernel_rfl
theorem jf_oplogFolds3:(Tryz.f5.params.all (prog.readableRec ·)) = true:=by kernel_rfl
theorem jf_oplogFolds4:(namedTie prog Rows.oplogFoldsRow.named Rows.oplogFoldsSpec.vars) = true:=by kernel_rfl
theorem jf_oplogFolds5:((Rows.oplogFoldsRow.stops == [])) = true:=by kernel_rfl
theorem jf_oplogFolds6:((prog.stops == [])) = true:=by kernel_rfl
theorem jf_oplogFolds7:((Rows.oplogFoldsRow.knobs == [])) = true:=by kernel_rfl
theorem jf_oplogFolds8:((prog.stopKnobs == [])) = true:=by kernel_rfl
theorem jf_oplogFolds9:((Rows.oplogFoldsRow.inPlace == prog.inPlace 5)) = true:=by kernel_rfl
theorem jf_oplogFolds10:((Rows.oplogFoldsRow.unfollowed == prog.unfollowed 5)) = true:=by kernel_rfl
theorem jf_oplogFolds11:((Rows.oplogFoldsRow.recurses == prog.recurses 5)) = true:=by kernel_rfl
theorem jf_oplogFolds12:((Rows.oplogFoldsRow.named == prog.varsNamed 5)) = true:=by kernel_rfl
theorem jf_oplogFolds13:((Rows.oplogFoldsRow.maps == (Tryz.f5.params.toList ++ Rows.oplogFoldsSpec.plain.varTypes prog).any (prog.mapsRec ·))) = true:=by kernel_rfl
theorem jf_oplogFolds14:((Rows.oplogFoldsRow.ifaces == (Tryz.f5.params.toList ++ Rows.oplogFoldsSpec.plain.varTypes prog).any (prog.ifacesRec ·))) = true:=by kernel_rfl
theorem jf_oplogFolds15:((Rows.oplogFoldsRow.mapsOut == prog.mapsAmong Tryz.f5.resultTypes.toList)) = true:=by kernel_rfl
theorem jf_oplogFolds16:((Rows.oplogFoldsRow.loops == (Tryz.f5.params.toList ++ Rows.oplogFoldsSpec.plain.varTypes prog).any (prog.loopsFrom ·))) = true:=by kernel_rfl
theorem jf_oplogFolds17:((Rows.oplogFoldsRow.wideKeys == (Tryz.f5.params.toList ++ Rows.oplogFoldsSpec.plain.varTypes prog ++ Tryz.f5.resultTypes.toList).any (prog.wideKeysFrom ·))) = true:=by kernel_rfl
theorem jf_oplogFolds18:(Rows.oplogFoldsSpec.vars.all (prog.varReadable ·)) = true:=by kernel_rfl
theorem jf_oplogFolds19:(Tryz.f5.resultTypes.all (fun t=>prog.readableRec t && decide (t < prog.types.size))) = true:=by kernel_rfl
theorem jf_oplogFolds20:((Rows.oplogFoldsRow.ifacesOut == Tryz.f5.resultTypes.toList.any (prog.ifacesRec ·))) = true:=by kernel_rfl
theorem jf_oplogFolds21:((Rows.oplogFoldsRow.loopsOut == Tryz.f5.resultTypes.toList.any (prog.loopsFrom ·))) = true:=by kernel_rfl
theorem jf_oplogFolds22:((Rows.oplogFoldsRow.plainKeys == prog.plainKeys)) = true:=by kernel_rfl
theorem jf_oplogFolds23:(Rows.oplogFoldsRow.shortTexts.isNone) = true:=by kernel_rfl
theorem jf_oplogFolds24:(prog.stopsHeard) = true:=by kernel_rfl
theorem jf_oplogFolds25:(prog.mayEnter) = true:=jf_may
theorem jf_oplogFolds26:((Rows.oplogFoldsRow.lifted == prog.liftsFinal)) = true:=by rw [jf_lift]; rfl
theorem jf_oplogFolds27:((prog.make == some Rows.oplogFoldsRow.make)) = true:=by rw [jf_make]; rfl
theorem jf_oplogFolds28:((Rows.oplogFoldsRow.kinds == (if Rows.oplogFoldsRow.domain.isEmpty then [] else Tryz.f5.params.toList.map fun t=>match prog.underlying t with | some (.int k)=>some k | _=>none))) = true:=by kernel_rfl
theorem jf_oplogFolds29:((Rows.oplogFoldsRow.pinned == Rows.oplogFoldsRow.pinnedBy)) = true:=by kernel_rfl
theorem jf_oplogFolds30:((Rows.oplogFoldsRow.veiled == (Tryz.f5.params.toList ++ Rows.oplogFoldsSpec.plain.varTypes prog ++ Tryz.f5.resultTypes.toList).any (prog.veiledRec ·))) = true:=by kernel_rfl
theorem jf_oplogFolds31:(Rows.oplogFoldsRow.veiledFits prog Tryz.f5.params.toList (Tryz.f5.params.toList ++ Rows.oplogFoldsSpec.plain.varTypes prog ++ Tryz.f5.resultTypes.toList)) = true:=by kernel_rfl
theorem jf_oplogFolds:joinedFacts prog 5 Tryz.f5 Rows.oplogFoldsSpec Rows.oplogFoldsRow = true:=by
  unfold joinedFacts
  simp only [Bool.and_eq_true]
  exact ⟨⟨⟨⟨⟨⟨⟨⟨⟨⟨⟨⟨⟨⟨⟨⟨⟨⟨⟨⟨⟨⟨⟨⟨⟨⟨⟨⟨⟨⟨⟨jf_oplogFolds0,jf_oplogFolds1⟩,jf_oplogFolds2⟩,jf_oplogFolds3⟩,jf_oplogFolds4⟩,jf_oplogFolds5⟩,jf_oplogFolds6⟩,jf_oplogFolds7⟩,jf_oplogFolds8⟩,jf_oplogFolds9⟩,jf_oplogFolds10⟩,jf_oplogFolds11⟩,jf_oplogFolds12⟩,jf_oplogFolds13⟩,jf_oplogFolds14⟩,jf_oplogFolds15⟩,jf_oplogFolds16⟩,jf_oplogFolds17⟩,jf_oplogFolds18⟩,jf_oplogFolds19⟩,jf_oplogFolds20⟩,jf_oplogFolds21⟩,jf_oplogFolds22⟩,jf_oplogFolds23⟩,jf_oplogFolds24⟩,jf_oplogFolds25⟩,jf_oplogFolds26⟩,jf_oplogFolds27⟩,jf_oplogFolds28⟩,jf_oplogFolds29⟩,jf_oplogFolds30⟩,jf_oplogFolds31⟩
end Go.Proofs.YtfokljnhllflbaaGreat
namespace Go.Proofs.YtfokljnhllflbaaGreat
open Go Go.Eng Go.ChangeShapes Go.WideShapes Go.ChangeAt Go.RowKit Go.Proofs.Tryz
set_option maxRecDepth 100000 in
theorem oplogFolds_lifted (os:Os) (started:os.Started) (H:Type) (enc:TypeId × Value → H) :
    ReturnsInHanded {} checked os 5 .any (Rows.oplogFoldsSpec.pre6 enc prog Tryz.f5 Rows.oplogFoldsRow.domain false) (Rows.oplogFoldsSpec.post enc prog Tryz.f5 false true false false):=by
  refine returnsInHanded_of_change (C:=checked) Tryz.own started (by kernel_rfl) func5
    (ChangeSpec.witness6 (enc:=enc) (C:=checked) false ⟨#[], #[(.agg #[(J 0),(J 0),(J 0),(.string (⟨#[]⟩)),(.slice none 0 0)]),(.agg #[(J 0),(J 0),(J 0),(J 0),(.string (⟨#[]⟩)),(J 0),(J 0),(J 0),(J 0),(J 0),(J 0),(J 0),(J 0),(J 0),(J 0),(J 0),(.slice none 0 0)])],[]⟩ 8 (by kernel_rfl) (by kernel_rfl) (by kernel_rfl) (by kernel_rfl)) ?_
  intro W base args ds gs before hval0 hW hcnd _
  have hval : ∀ (j:Nat) t v,Tryz.f5.params[j]? = some t → args[j]? = some v → Value.okWide prog W .any base t v:=hval0
  have hW':=hW
  obtain ⟨p,q,hA0,hV,rfl,hfz,hnd⟩:=hW
  have hA:DataW.TrodAll enc prog W 0 (fun _=>true) true Tryz.f5.params.toList args.toList ds p:=hA0
  rw [params5] at hA hval
  clear hA0 hval0
  obtain ⟨v0,vs0,d0,ds0,p0,q0,ha0,rfl,rfl,h0,hA⟩:=trodAll_cons hA
  obtain ⟨v1,vs1,d1,ds1,p1,q1,ha1,rfl,rfl,h1,hA⟩:=trodAll_cons hA
  obtain ⟨hz1,rfl,rfl⟩:=trodAll_nil hA
  obtain ⟨rfl,rfl⟩:=trodVars_none hV
  have hargs:args = #[v0,v1]:=by apply Array.ext'; rw [ha0,ha1,hz1]
  subst hargs
  obtain ⟨l0,e0,c0⟩:=tr_agg underlying24 (hval 0 24 v0 rfl rfl)
  obtain ⟨m0,h0⟩:=h0
  rw [c0] at h0
  clear c0
  obtain ⟨k,A,n,c,q0,hr,hn,hc,hk0,hk1,hk2,hke⟩:=op_Kept h0
  subst q0
  subst e0
  obtain ⟨l1,e1,c1⟩:=tr_agg underlying33 (hval 1 33 v1 rfl rfl)
  obtain ⟨m1,h1⟩:=h1
  rw [c1] at h1
  clear c1
  obtain ⟨r,A2,n2,c2,q1,hr2,hn2,hc2,hr0,hr1,hr3,hr4,hre⟩:=op_Rec h1
  subst q1
  subst e1
  refine Calls.mono (oplogFolds_ W W.heap.size k A n c hr (Nat.le_refl _) hn hc r A2 n2 c2 hr2 hn2 hc2) ?_
  rintro e W' ⟨v,rfl,rfl,g⟩
  exact ⟨_,rfl,law_post (t:=4) laidOut (by kernel_rfl) Z underlying4 hW' Z Z g⟩
theorem oplogFolds_holds:Rows.OplogFoldsSaid :=
  OpenClaim.holds_of_wide 5 Tryz.f5 rfl rfl rfl rfl rfl rfl rfl ⟨rfl,rfl,rfl,rfl,rfl⟩ rfl rfl rfl rfl rfl (by kernel_rfl) func5 jf_oplogFolds
    (of_decide_eq_true (by kernel_rfl)) (by unfold Func.isWrapper; first | (rw [if_pos (by decide +kernel)]; kernel_rfl) | (rw [if_neg (by decide +kernel)]; exact ⟨rfl,rfl⟩))
    (fun os started H enc _=>oplogFolds_lifted os started H enc)
#print axioms oplogFolds_holds
end Go.Proofs.YtfokljnhllflbaaGreat
