/- Part 4 of the proof of OplogFolds: C15, C16, C17, Spec13, EngVote, Spec20. -/
import Derived.Deep.Quiet
import Derived.Ground.NamesProg
import Derived.Ground.SlgcProg
import Derived.Ground.SlsfProg
import Derived.JoinedOf
import Derived.Laws.BytesString
import Derived.Laws.MakeOwn
import Derived.Laws.Strings
import Derived.Lib.AppendZeros
import Derived.Lib.ConvBytes
import Derived.Lib.Overlaps
import Derived.Maps.AppendAt
import Derived.OrdersHeld
import Derived.ProofKit
import Derived.Recover
import Derived.ScopeJumps
import Derived.Shelf.SlSortCmp.NoneTotal
import Derived.Shelf.SlSortCmp.WholeK
import Derived.Shelf.SlicesG.Cmp
import Derived.Shelf.Small.Bits
import Derived.Sort.OwnSortedInts
import Derived.StillTail
import Derived.Test.YtfokljnhllflbaaGreatProg
import Derived.WalkKit
import Derived.WalkLawsBesides
import Derived.WalkSpells
import Derived.Test.YtfokljnhllflbaaGreatPOplogFolds2
set_option linter.unusedSimpArgs false
set_option linter.unusedVariables false
namespace Go.Proofs.YtfokljnhllflbaaGreat
open Go Go.Eng Go.RowKit Go.Proofs.Tryz
set_option maxHeartbeats 2000000 in
set_option maxRecDepth 20000 in
theorem fold_ (w:World) (S:Nat → Prop) (p:Nat) (k:Kept) (A:Option Addr) (n c:Nat) (hS:(AllA [Aa p 141 [(J k.view),(J k.normal),(J k.base),(.string (tx k.image)),(.slice A n c)],Ai 31 11 A n c (ents k.ents)]).ok S w) (hkk:Cn k = true) (hi:k.image.length ≤ 140737488351232) (r:Rec) (A2:Option Addr) (n2 c2:Nat) (hr2:RdN w S 11 A2 (ents r.ents)) (hn2:n2 = r.ents.length) (hm2:n2 ≤ 1099511627776) (hc2:n2 ≤ c2) (hi2:r.image.length ≤ 140737488351232):Ret prog 109 [(.pointer (some ⟨p,0,none⟩)),(.agg ((rC r A2 n2 c2)).toArray)] w (fun v w' => ∃ (k':Kept) (A':Option Addr) (n' c':Nat),v = .int .i64 (Cb (As k r)).1∧Sp ([Aa p 141 [.int .i64 k'.view,.int .i64 k'.normal,.int .i64 k'.base,.string (tx k'.image),.slice A' n' c'],Ai 31 11 A' n' c' (ents k'.ents)] ++ [Bd w S]) w'∧((Cb (As k r)).1 = 0 → k' = (Cb (As k r)).2)):=by
  have hkt:=keptB_t hkk
  have H0:=Sp.startL hS
  have hnl:=H0.len (i:=1) rfl
  have hnc:=H0.cap (i:=1) rfl
  simp only [Ap] at hnl
  have H0:Sp [Aa p 141 [(J k.view),(J k.normal),(J k.base),(.string (tx k.image)),(.slice A n c)],Ai 31 11 A n c (ents k.ents),Bd w S] w:=H0
  refine aP func109 Z Z Z ?_
  refine cT (bH (cs:=(rC r A2 n2 c2)) Z Z Z ?_)
  intro w1 b2 hb3 hz4 g5 o6
  have H7:=H0.newB g5 o6 (by omega)
  have z8:=g5.size
  refine za (J 0) Z (cS (aD (cT (zg Z (fa33_0 (b:=⟨b2,0,none⟩) Z Z) (zl (J r.kind) lo26 (H7.ob (i:=0) Z) Z (cS (aG (aD (cT ?_)))))))))
  refine zc ((r.kind:Int) = (1:Int)) Z (fun r hr=>bP Z Z hr) (fun h9=>?_) (fun h9=>?_)
  ·refine za bT Z (cS (aE Z (aA (aQ (aE Z (aD (aW (fun wq=>World.grownBy w1 wq none) Tryz.mixed (by kernel_rfl) ⟨Z,rfl,rfl,Nat.le_refl _,fun _ _ _=>rfl⟩ (QL.go Z Z Z (fun wq gq=>fa33_1 (b:=⟨b2,1,none⟩) Z Z) (QL.go Z Z Z (fun wq gq=>bW Z (Ax Bw (Ob.cell (v:=(J r.view)) ((H7.grow gq).ob (i:=0) Z) Z))) (QL.go Z Z Z (fun wq gq=>aX (v:=(.pointer (some ⟨p,0,none⟩))) Z) (QL.go Z Z Z (fun wq gq=>bX Z) (QL.go Z Z Z (fun wq gq=>Co (b:=⟨p,0,none⟩) Z Z) (QL.go Z Z Z (fun wq gq=>fa24_0 (b:=⟨p,0,none⟩) Z Z) (QL.go Z Z Z (fun wq gq=>bW Z (Ax Bw (Ob.cell (v:=(J k.view)) ((H7.grow gq).ob (i:=1) Z) Z))) ?_))))))))))))))
   refine QL.br (p:=(r.view:Int) < (k.view:Int)) Z Z Z (fun r hr wq gq=>bL Z Z hr) (fun h10=>?_) (fun h10=>?_)
   ·refine QL.nil ?_
    intro w11 g12
    have H13:=H7.grow g12
    have z14:=g12.size
    refine aQ (aE Z (cT (za (J 141) Z (cS (aB (inB.r (aR (aO (v:=(J 141)) (Ba Z Z) ?_))))))))
    have hx:(Cb (As k r)).1 = 141:=by
      unfold As Dm
      simp [Cb,h9,h10]
    exact ⟨k,_,_,_,Bi hx.symm,(H13.sel [1,2,3] (by decide) rfl),fun h0=>by rw [hx] at h0; cases h0⟩
   ·refine QL.nil ?_
    intro w15 g16
    have H17:=H7.grow g16
    have z18:=g16.size
    refine aQ (aF Z (aA (inB.n (aQ (cT (zm (.pointer (some ⟨p,0,none⟩)) Z (zg Z (bX Z) (zg Z (Co (b:=⟨p,0,none⟩) Z Z) (zg Z (bW Z (Aj (cs:=[(J k.view),(J k.normal),(J k.base),(.string (tx k.image)),(.slice A n c)]) Ct (H17.ob (i:=1) Z).cl)) (aU call125 (last_ _ _ _ k (KeptR.of (k:=k) (n:=n) (c:=c) (H17.rowrd (i:=2) Z) (by show n = (k.ents).length; (try simp only [List.length_append,List.length_cons,List.length_nil,List.length_take,List.length_drop]); all_goals omega) (by omega) (by omega) (by first | assumption | (show List.length _ ≤ _; first | assumption | decide | omega))) (Nat.le_refl _) hkk) Z Z Z ?_))))))))))
    rintro _ w19 ⟨rfl,g20⟩
    have H21:=H17.grow g20
    have z22:=g20.size
    refine za (J (k.base + (k.ents.length:Int))) Z (cS (aD (cT (zg Z (fa33_0 (b:=⟨b2,0,none⟩) Z Z) (zl (J r.kind) lo26 (H21.ob (i:=0) Z) Z (cS (aG (cT (zg Z (bP (r:=true) Z Z (decide_eq_true (by omega))) (za bT Z (cS (aE Z (aL (zm (.pointer (some ⟨p,0,none⟩)) Z (zg Z (fa33_1 (b:=⟨b2,1,none⟩) Z Z) (zl (J r.view) Bw (H21.ob (i:=0) Z) Z ?_))))))))))))))))
    refine zg Z (bX Z) (zg Z (Co (b:=⟨p,0,none⟩) Z Z) (zg Z (fa24_0 (b:=⟨p,0,none⟩) Z Z) (bE (vs:=[(J r.view)]) (cs':=[(J r.view),(J k.normal),(J k.base),(.string (tx k.image)),(.slice A n c)]) sizeOf3 (H21.ob (i:=1) Z) Z Z Z Z Z Z ?_)))
    intro w23 hz24 g25 o26
    have H27:Sp [Aa b2 33 (rC r A2 n2 c2),Aa p 141 [(J r.view),(J k.normal),(J k.base),(.string (tx k.image)),(.slice A n c)],Ai 31 11 A n c (ents k.ents),Bd w S] w23:=H21.setB (i:=1) rfl g25 o26 rfl
    have z28:=g25.size
    refine aM (inB.n (aQ (aD (aG (cT (zm (.pointer (some ⟨p,0,none⟩)) Z (zg Z (bX Z) (zg Z (Co (b:=⟨p,0,none⟩) Z Z) (zg Z (Cv (b:=⟨p,4,none⟩) Z Z) (zl (.slice A n c) lo22 (H27.ob (i:=1) Z) Z ?_))))))))))
    have hmk29:As k r = (0,(⟨r.view,k.normal,k.base,k.image,k.ents⟩:Kept)):=by
        unfold As Dm
        simp [h9,h10]
    have hln:=H27.len (i:=2) rfl
    have hcn:=H27.cap (i:=2) rfl
    simp only [Aq,Au,Ar,Am,Ak,Ap,List.length_append,List.length_cons,List.length_nil,List.length_take,List.length_drop,List.length_map,Cr,Dp,Bj,Bk] at hln
    refine zg Z (bR underlying22 Z) ?_
    refine zc ((4000:Int) < ((n:Nat):Int)) Z (fun r hr=>bN Z Z hr) (fun h30=>?_) (fun h30=>?_)
    ·refine za bT Z (cS (aE Z (cT (za (J 2) Z (cS (aB (inB.r (aR (aO (v:=(J 2)) (Ba Z Z) ?_)))))))))
     have hx:(Cb (As k r)).1 = 2:=by
       rw [hmk29]; unfold Cb
       rw [if_pos rfl,if_pos (by show 4000 < (List.length _); simp only [Aq,Au,Ar,Am,Ak,Ap,List.length_append,List.length_cons,List.length_nil,List.length_take,List.length_drop,List.length_map,Cr,Dp,Bj,Bk]; omega)]
     exact ⟨(⟨r.view,k.normal,k.base,k.image,k.ents⟩:Kept),_,_,_,Bi hx.symm,(H27.sel [1,2,3] (by decide) rfl),fun h0=>by rw [hx] at h0; cases h0⟩
    ·refine za bF Z (cS (aF Z (cT (zm (.pointer (some ⟨p,0,none⟩)) Z (zg Z (bX Z) (zg Z (Co (b:=⟨p,0,none⟩) Z Z) (zg Z (bW Z (Aj (cs:=[(J r.view),(J k.normal),(J k.base),(.string (tx k.image)),(.slice A n c)]) Ct (H27.ob (i:=1) Z).cl)) (aU call57 (opCheck_ _ _ _ (⟨r.view,k.normal,k.base,k.image,k.ents⟩:Kept) (KeptR.of (k:=(⟨r.view,k.normal,k.base,k.image,k.ents⟩:Kept)) (n:=n) (c:=c) (H27.rowrd (i:=2) Z) (by show n = (k.ents).length; (try simp only [List.length_append,List.length_cons,List.length_nil,List.length_take,List.length_drop]); all_goals omega) (by omega) (by omega) (by first | assumption | (show List.length _ ≤ _; first | assumption | decide | omega))) (Nat.le_refl _)) Z Z Z ?_))))))))
     rintro _ w31 ⟨rfl,g32⟩
     have H33:=H27.grow g32
     have z34:=g32.size
     refine zc (((if Cn (⟨r.view,k.normal,k.base,k.image,k.ents⟩:Kept) then 0 else 1):Int) ≠ (0:Int)) Z (fun r hr=>bQ Z Z hr) (fun h35=>?_) (fun h35=>?_)
     ·refine za bT Z (cS (aE Z (cT (za (J 141) Z (cS (aB (inB.r (aR (aO (v:=(J 141)) (Ba Z Z) ?_)))))))))
      have hx:(Cb (As k r)).1 = 141:=by
        rw [hmk29]; unfold Cb
        rw [if_pos rfl,if_neg (by show ¬ 4000 < (List.length _); simp only [Aq,Au,Ar,Am,Ak,Ap,List.length_append,List.length_cons,List.length_nil,List.length_take,List.length_drop,List.length_map,Cr,Dp,Bj,Bk]; omega),if_neg (by have:=ite_ne0 h35; intro h0; rw [h0] at this; cases this)]
      exact ⟨(⟨r.view,k.normal,k.base,k.image,k.ents⟩:Kept),_,_,_,Bi hx.symm,(H33.sel [1,2,3] (by decide) rfl),fun h0=>by rw [hx] at h0; cases h0⟩
     ·refine za bF Z (cS (aF Z (aA (inB.n (aQ (cT (za (J 0) Z (cS (aB (aO (v:=(J 0)) (Ba Z Z) ?_))))))))))
      have hx:Cb (As k r) = (0,(⟨r.view,k.normal,k.base,k.image,k.ents⟩:Kept)):=by
        rw [hmk29]; unfold Cb
        rw [if_pos rfl,if_neg (by show ¬ 4000 < (List.length _); simp only [Aq,Au,Ar,Am,Ak,Ap,List.length_append,List.length_cons,List.length_nil,List.length_take,List.length_drop,List.length_map,Cr,Dp,Bj,Bk]; omega),if_pos (by exact ite_eq0 h35)]
      exact ⟨(⟨r.view,k.normal,k.base,k.image,k.ents⟩:Kept),_,_,_,by rw [hx],(H33.sel [1,2,3] (by decide) Z),fun _=>by rw [hx]⟩
  ·refine za bF Z (cS (aF Z (cT ?_)))
   refine zc ((r.kind:Int) = (3:Int)) Z (fun r hr=>bP Z Z hr) (fun h36=>?_) (fun h36=>?_)
   ·refine za bT Z (cS (aE Z (aA (aQ (aE Z (aD (aW (fun wq=>World.grownBy w1 wq none) Tryz.mixed (by kernel_rfl) ⟨Z,rfl,rfl,Nat.le_refl _,fun _ _ _=>rfl⟩ (QL.go Z Z Z (fun wq gq=>fa33_1 (b:=⟨b2,1,none⟩) Z Z) (QL.go Z Z Z (fun wq gq=>bW Z (Ax Bw (Ob.cell (v:=(J r.view)) ((H7.grow gq).ob (i:=0) Z) Z))) (QL.go Z Z Z (fun wq gq=>aX (v:=(.pointer (some ⟨p,0,none⟩))) Z) (QL.go Z Z Z (fun wq gq=>bX Z) (QL.go Z Z Z (fun wq gq=>Co (b:=⟨p,0,none⟩) Z Z) (QL.go Z Z Z (fun wq gq=>fa24_0 (b:=⟨p,0,none⟩) Z Z) (QL.go Z Z Z (fun wq gq=>bW Z (Ax Bw (Ob.cell (v:=(J k.view)) ((H7.grow gq).ob (i:=1) Z) Z))) ?_))))))))))))))
    refine QL.br (p:=(r.view:Int) < (k.view:Int)) Z Z Z (fun r hr wq gq=>bL Z Z hr) (fun h37=>?_) (fun h37=>?_)
    ·refine QL.nil ?_
     intro w38 g39
     have H40:=H7.grow g39
     have z41:=g39.size
     refine aQ (aE Z (cT (za (J 141) Z (cS (aB (inB.r (aR (aO (v:=(J 141)) (Ba Z Z) ?_))))))))
     have hx:(Cb (As k r)).1 = 141:=by
       unfold As Dm
       simp [Cb,h9,h36,h37]
     exact ⟨k,_,_,_,Bi hx.symm,(H40.sel [1,2,3] (by decide) rfl),fun h0=>by rw [hx] at h0; cases h0⟩
    ·refine QL.nil ?_
     intro w42 g43
     have H44:=H7.grow g43
     have z45:=g43.size
     refine aQ (aF Z (aA (inB.n (aQ (cT (zm (.pointer (some ⟨p,0,none⟩)) Z (zg Z (bX Z) (zg Z (Co (b:=⟨p,0,none⟩) Z Z) (zg Z (bW Z (Aj (cs:=[(J k.view),(J k.normal),(J k.base),(.string (tx k.image)),(.slice A n c)]) Ct (H44.ob (i:=1) Z).cl)) (aU call125 (last_ _ _ _ k (KeptR.of (k:=k) (n:=n) (c:=c) (H44.rowrd (i:=2) Z) (by show n = (k.ents).length; (try simp only [List.length_append,List.length_cons,List.length_nil,List.length_take,List.length_drop]); all_goals omega) (by omega) (by omega) (by first | assumption | (show List.length _ ≤ _; first | assumption | decide | omega))) (Nat.le_refl _) hkk) Z Z Z ?_))))))))))
     rintro _ w46 ⟨rfl,g47⟩
     have H48:=H44.grow g47
     have z49:=g47.size
     refine za (J (k.base + (k.ents.length:Int))) Z (cS (aD (cT (zg Z (fa33_0 (b:=⟨b2,0,none⟩) Z Z) (zl (J r.kind) lo26 (H48.ob (i:=0) Z) Z (cS (aG (cT (zg Z (bP (r:=false) Z Z (decide_eq_false (by omega))) (za bF Z (cS (aF Z (cT (zg Z (bP (r:=false) Z Z (decide_eq_false (by omega))) (za bF Z (cS (aF Z (cT ?_))))))))))))))))))
     refine zg Z (bP (r:=true) Z Z (decide_eq_true (by omega))) (za bT Z (cS (aE Z (aD (aD (cN (fun wq=>Sp [Aa b2 33 (rC r A2 n2 c2),Aa p 141 [(J k.view),(J k.normal),(J k.base),(.string (tx k.image)),(.slice A n c)],Ai 31 11 A n c (ents k.ents),Bd w S] wq) Tryz.mixed Z ?_))))))
     intro w50 g51
     have H52:=H48.grow g51
     have z53:=g51.size
     refine zr 0 1 Z (by kernel_rfl) H52 (fun wq hq=>fa33_2 (b:=⟨b2,2,none⟩) Z Z) (zr 2 5 Z (by kernel_rfl) H52 (fun wq hq=>aX (v:=(.pointer (some ⟨p,0,none⟩))) Z) (zr 3 13 Z (by kernel_rfl) H52 (fun wq hq=>bX Z) (zr 4 29 Z (by kernel_rfl) H52 (fun wq hq=>Co (b:=⟨p,0,none⟩) Z Z) (zr 5 61 Z (by kernel_rfl) H52 (fun wq hq=>fa24_2 (b:=⟨p,2,none⟩) Z Z) (zr 7 189 Z (by kernel_rfl) H52 (fun wq hq=>aX (v:=(J (k.base + (k.ents.length:Int)))) Z) (zr 1 191 Z (by kernel_rfl) H52 (fun wq hq=>bW Z (Ax Bw (Ob.cell (v:=(J r.from_)) (hq.ob (i:=0) Z) Z))) (zr 6 255 Z (by kernel_rfl) H52 (fun wq hq=>bW Z (Ax Bw (Ob.cell (v:=(J k.base)) (hq.ob (i:=1) Z) Z))) (cO (i:=8) (by kernel_rfl) ?_))))))))
     refine ⟨_,511,rfl,by kernel_rfl,?_⟩
     refine aU call122 (within_oplog _ r.from_ k.base (k.base + (k.ents.length:Int))) Z Z Z ?_
     rintro _ _ ⟨rfl,rfl⟩
     rcases hb57:(Az r.from_ k.base (k.base + (k.ents.length:Int))) with _ | _
     ·refine aM ?_
      refine ⟨H52,?_⟩
      refine zr 9 1023 Z (by kernel_rfl) H52 (fun wq hq=>bC (b:=false) Z) (zr 10 2047 Z (by kernel_rfl) H52 (fun wq hq=>aX (v:=bT) Z) (zq 11 4095 Z (by kernel_rfl) H52 (zq 13 12287 Z (by kernel_rfl) H52 (zq 12 16383 Z (by kernel_rfl) H52 (zq 14 32767 Z (by kernel_rfl) H52 (zq 15 65535 Z (by kernel_rfl) H52 (zq 16 131071 Z (by kernel_rfl) H52 (zr 17 262143 Z (by kernel_rfl) H52 (fun wq hq=>aZ (v:=bT) Z Z) (cQ (by kernel_rfl) (aQ (aE Z ?_)))))))))))
      refine cT (za (J 140) Z (cS (aB (aR (inB.r (aR (aO (v:=(J 140)) (Ba Z Z) ?_)))))))
      have hx:(Cb (As k r)).1 = 140:=by
        unfold As Dm
        simp [Cb,h9,h36,h37,hb57]
      exact ⟨k,_,_,_,Bi hx.symm,(H52.sel [1,2,3] (by decide) rfl),fun h0=>by rw [hx] at h0; cases h0⟩
     ·have hw54:=Bh hb57
      refine aM ?_
      refine ⟨H52,?_⟩
      refine zr 9 1023 Z (by kernel_rfl) H52 (fun wq hq=>bC (b:=true) Z) (zr 10 2047 Z (by kernel_rfl) H52 (fun wq hq=>aX (v:=bF) Z) (zr 11 4095 Z (by kernel_rfl) H52 (fun wq hq=>fa33_6 (b:=⟨b2,16,none⟩) Z Z) (zr 13 12287 Z (by kernel_rfl) H52 (fun wq hq=>fa33_2 (b:=⟨b2,2,none⟩) Z Z) (zr 12 16383 Z (by kernel_rfl) H52 (fun wq hq=>bW Z (Ax lo22 (Ob.cell (v:=(.slice A2 n2 c2)) (hq.ob (i:=0) Z) Z))) (zr 14 32767 Z (by kernel_rfl) H52 (fun wq hq=>bW Z (Ax Bw (Ob.cell (v:=(J r.from_)) (hq.ob (i:=0) Z) Z))) (cO (i:=15) (by kernel_rfl) ?_))))))
      refine ⟨_,65535,rfl,by kernel_rfl,?_⟩
      refine aU call123 (follows_ _ ⟨A2,n2,c2⟩ r.ents r.from_ _ (by first | assumption | rfl | omega) (by show n2 ≤ _; omega) ((hr2.st (H52.chg (i:=3) Z)).rd)) Z Z Z ?_
      rintro _ w58 ⟨rfl,g59⟩
      have H60:=H52.grow g59
      have z61:=g59.size
      rcases hb62:(follB r.ents r.from_) with _ | _
      ·refine aM ?_
       refine ⟨H60,?_⟩
       refine zr 16 131071 Z (by kernel_rfl) H60 (fun wq hq=>bC (b:=false) Z) (zr 17 262143 Z (by kernel_rfl) H60 (fun wq hq=>bA (v:=bT) Z Z) (cQ (by kernel_rfl) (aQ (aE Z (cT (za (J 140) Z (cS (aB (aR (inB.r (aR (aO (v:=(J 140)) (Ba Z Z) ?_))))))))))))
       have hx:(Cb (As k r)).1 = 140:=by
         unfold As Dm
         simp [Cb,h9,h36,h37,hb57,hb62]
       exact ⟨k,_,_,_,Bi hx.symm,(H60.sel [1,2,3] (by decide) rfl),fun h0=>by rw [hx] at h0; cases h0⟩
      ·refine aM ?_
       refine ⟨H60,?_⟩
       refine zr 16 131071 Z (by kernel_rfl) H60 (fun wq hq=>bC (b:=true) Z) (zr 17 262143 Z (by kernel_rfl) H60 (fun wq hq=>bA (v:=bF) Z Z) (cQ (by kernel_rfl) (aQ (aF Z (aA (aQ (aD (cN (fun wq=>Sp [Aa b2 33 (rC r A2 n2 c2),Ai 31 11 A n c (ents k.ents),Bd w S] wq) Tryz.mixed Z ?_))))))))
       intro w63 g65
       have H66:=H60.grow g65
       have z67:=g65.size
       refine zr 0 1 Z (by kernel_rfl) (H66.sel [0,2,3] (by decide) Z) (fun wq hq=>aX (v:=(.pointer (some ⟨p,0,none⟩))) Z) (zr 1 3 Z (by kernel_rfl) (H66.sel [0,2,3] (by decide) Z) (fun wq hq=>aX (v:=(.pointer (some ⟨p,0,none⟩))) Z) (zr 2 7 Z (by kernel_rfl) (H66.sel [0,2,3] (by decide) Z) (fun wq hq=>fa33_1 (b:=⟨b2,1,none⟩) Z Z) (zr 4 23 Z (by kernel_rfl) (H66.sel [0,2,3] (by decide) Z) (fun wq hq=>fa33_1 (b:=⟨b2,1,none⟩) Z Z) (zr 3 31 Z (by kernel_rfl) (H66.sel [0,2,3] (by decide) Z) (fun wq hq=>bW Z (Ax Bw (Ob.cell (v:=(J r.view)) (hq.ob (i:=0) Z) Z))) (zr 6 95 Z (by kernel_rfl) (H66.sel [0,2,3] (by decide) Z) (fun wq hq=>bX Z) (zr 7 223 Z (by kernel_rfl) (H66.sel [0,2,3] (by decide) Z) (fun wq hq=>Co (b:=⟨p,0,none⟩) Z Z) (zr 8 479 Z (by kernel_rfl) (H66.sel [0,2,3] (by decide) Z) (fun wq hq=>fa24_0 (b:=⟨p,0,none⟩) Z Z) ?_)))))))
       refine zr 5 511 Z (by kernel_rfl) (H66.sel [0,2,3] (by decide) Z) (fun wq hq=>bW Z (Ax Bw (Ob.cell (v:=(J r.view)) (hq.ob (i:=0) Z) Z))) (cO (i:=9) (by kernel_rfl) ?_)
       refine ⟨_,1023,rfl,by kernel_rfl,?_⟩
       refine bE (vs:=[(J r.view)]) (cs':=[(J r.view),(J k.normal),(J k.base),(.string (tx k.image)),(.slice A n c)]) sizeOf3 (H66.ob (i:=1) Z) Z Z Z Z Z Z ?_
       intro w68 hz69 g70 o71
       have H72:Sp [Aa b2 33 (rC r A2 n2 c2),Aa p 141 [(J r.view),(J k.normal),(J k.base),(.string (tx k.image)),(.slice A n c)],Ai 31 11 A n c (ents k.ents),Bd w S] w68:=H66.setB (i:=1) rfl g70 o71 rfl
       have z73:=g70.size
       refine aM ?_
       refine ⟨(H72.sel [0,2,3] (by decide) Z),?_⟩
       refine zr 10 2047 Z (by kernel_rfl) (H72.sel [0,2,3] (by decide) Z) (fun wq hq=>bX Z) (zr 11 4095 Z (by kernel_rfl) (H72.sel [0,2,3] (by decide) Z) (fun wq hq=>Co (b:=⟨p,0,none⟩) Z Z) (zr 12 8191 Z (by kernel_rfl) (H72.sel [0,2,3] (by decide) Z) (fun wq hq=>fa24_1 (b:=⟨p,1,none⟩) Z Z) (cO (i:=13) (by kernel_rfl) ?_)))
       refine ⟨_,16383,rfl,by kernel_rfl,?_⟩
       refine bE (vs:=[(J r.view)]) (cs':=[(J r.view),(J r.view),(J k.base),(.string (tx k.image)),(.slice A n c)]) sizeOf3 (H72.ob (i:=1) Z) Z Z Z Z Z Z ?_
       intro w74 hz75 g76 o77
       have H78:Sp [Aa b2 33 (rC r A2 n2 c2),Aa p 141 [(J r.view),(J r.view),(J k.base),(.string (tx k.image)),(.slice A n c)],Ai 31 11 A n c (ents k.ents),Bd w S] w74:=H72.setB (i:=1) rfl g76 o77 rfl
       have z79:=g76.size
       refine aM ?_
       refine ⟨(H78.sel [0,2,3] (by decide) Z),?_⟩
       refine cQ (by kernel_rfl) (aQ ?_)
       refine CW.mid (fun t=>(Nat.ble 88 t && Nat.ble t 108)) (fun ρ wl => ∃ (A109:Option Addr) (c110:Nat),Sp [Aa b2 33 (rC r A2 n2 c2),Aa p 141 [(J r.view),(J r.view),(J k.base),(.string (tx k.image)),(.slice A109 (((r.from_ - k.base).toNat) + n2) c110)],Ai 31 11 A109 (((r.from_ - k.base).toNat) + n2) c110 (ents ((k.ents).take ((r.from_ - k.base).toNat) ++ r.ents)),Bd w S] wl) ?_ ?_
       ·refine cN (fun wq=>Sp [Aa b2 33 (rC r A2 n2 c2),Bd w S] wq) Tryz.mixed Z ?_
        intro w123 g124
        have H125:=H78.grow g124
        have z126:=g124.size
        refine zr 0 1 Z (by kernel_rfl) (H125.sel [0,3] (by decide) Z) (fun wq hq=>aX (v:=(.pointer (some ⟨p,0,none⟩))) Z) (zr 1 3 Z (by kernel_rfl) (H125.sel [0,3] (by decide) Z) (fun wq hq=>aX (v:=(.pointer (some ⟨p,0,none⟩))) Z) (zr 2 7 Z (by kernel_rfl) (H125.sel [0,3] (by decide) Z) (fun wq hq=>bX Z) (zr 3 15 Z (by kernel_rfl) (H125.sel [0,3] (by decide) Z) (fun wq hq=>Co (b:=⟨p,0,none⟩) Z Z) (zr 4 31 Z (by kernel_rfl) (H125.sel [0,3] (by decide) Z) (fun wq hq=>Cv (b:=⟨p,4,none⟩) Z Z) (zr 6 95 Z (by kernel_rfl) (H125.sel [0,3] (by decide) Z) (fun wq hq=>fa33_2 (b:=⟨b2,2,none⟩) Z Z) (zr 8 351 Z (by kernel_rfl) (H125.sel [0,3] (by decide) Z) (fun wq hq=>aX (v:=(.pointer (some ⟨p,0,none⟩))) Z) (zr 9 863 Z (by kernel_rfl) (H125.sel [0,3] (by decide) Z) (fun wq hq=>bX Z) ?_)))))))
        refine zr 10 1887 Z (by kernel_rfl) (H125.sel [0,3] (by decide) Z) (fun wq hq=>Co (b:=⟨p,0,none⟩) Z Z) (zr 11 3935 Z (by kernel_rfl) (H125.sel [0,3] (by decide) Z) (fun wq hq=>fa24_2 (b:=⟨p,2,none⟩) Z Z) (zr 15 36703 Z (by kernel_rfl) (H125.sel [0,3] (by decide) Z) (fun wq hq=>fa33_6 (b:=⟨b2,16,none⟩) Z Z) (zr 7 36831 Z (by kernel_rfl) (H125.sel [0,3] (by decide) Z) (fun wq hq=>bW Z (Ax Bw (Ob.cell (v:=(J r.from_)) (hq.ob (i:=0) Z) Z))) (zr 16 102367 Z (by kernel_rfl) (H125.sel [0,3] (by decide) Z) (fun wq hq=>bW Z (Ax lo22 (Ob.cell (v:=(.slice A2 n2 c2)) (hq.ob (i:=0) Z) Z))) ?_))))
        refine cP (i:=5) (j:=12) (by kernel_rfl) ?_ ?_
        ·refine ⟨_,102399,rfl,by kernel_rfl,?_⟩
         refine zl (.slice A n c) lo22 (H125.ob (i:=1) Z) Z (aM ?_)
         refine ⟨(H125.sel [0,3] (by decide) Z),?_⟩
         refine cO (i:=12) (by kernel_rfl) ?_
         refine ⟨_,106495,rfl,by kernel_rfl,?_⟩
         refine zl (J k.base) Bw (H125.ob (i:=1) Z) Z (aM ?_)
         refine ⟨(H125.sel [0,3] (by decide) Z),?_⟩
         try have hw127:=Bh hb57
         try have hw128:=Bh hb62
         refine zr 13 114687 Z (by kernel_rfl) (H125.sel [0,3] (by decide) Z) (fun wq hq=>bJ (r:=(((r.from_ - k.base).toNat:Nat):Int)) Z Z (by rw [Dl (by omega) (by omega)]; omega)) (zr 14 131071 Z (by kernel_rfl) (H125.sel [0,3] (by decide) Z) (fun wq hq=>bU (i:=((r.from_ - k.base).toNat)) underlying22 sizeOf31 Z Z Z (by omega)) (cO (i:=17) (by kernel_rfl) ?_))
         refine ⟨_,262143,rfl,by kernel_rfl,?_⟩
         have H129:Sp [Aa b2 33 (rC r A2 n2 c2),Aa p 141 [(J r.view),(J r.view),(J k.base),(.string (tx k.image)),(.slice A n c)],Ai 31 11 A ((r.from_ - k.base).toNat) c (ents ((k.ents).take ((r.from_ - k.base).toNat))),Bd w S] w123:=H125.takeR (i:=2) rfl (by omega) (ents_take _ _) rfl
         refine cL (base:=0) (xss:=(ents ((k.ents).take ((r.from_ - k.base).toNat)))) (yss:=(ents r.ents)) el22 (H129.wr (i:=2) Z) Z ((hr2.st (H129.chg (i:=3) Z)).rd) Z (by simp only [Aq,Au,Ar,Am,Ak,Ap,List.length_append,List.length_cons,List.length_nil,List.length_take,List.length_drop,List.length_map,Cr,Dp,Bj,Bk]; try omega) (ents_one _) (by omega) (by omega) (by omega) Z Z ?_
         intro w130 A131 c132 g133 ow134 nx135
         have H136:Sp [Aa b2 33 (rC r A2 n2 c2),Aa p 141 [(J r.view),(J r.view),(J k.base),(.string (tx k.image)),(.slice A n c)],Ai 31 11 A131 (((r.from_ - k.base).toNat) + n2) c132 (ents ((k.ents).take ((r.from_ - k.base).toNat) ++ r.ents)),Bd w S] w130:=H129.setR (i:=2) rfl g133 ((ents_app _ _).symm ▸ ow134) nx135 rfl
         have z137:=g133.size
         refine aM ?_
         refine ⟨(H136.sel [0,3] (by decide) Z),?_⟩
         refine zr 18 524287 Z (by kernel_rfl) (H136.sel [0,3] (by decide) Z) (fun wq hq=>bX Z) (zr 19 1048575 Z (by kernel_rfl) (H136.sel [0,3] (by decide) Z) (fun wq hq=>Co (b:=⟨p,0,none⟩) Z Z) (zr 20 2097151 Z (by kernel_rfl) (H136.sel [0,3] (by decide) Z) (fun wq hq=>Cv (b:=⟨p,4,none⟩) Z Z) (cO (i:=21) (by kernel_rfl) ?_)))
         refine ⟨_,4194303,rfl,by kernel_rfl,?_⟩
         refine bE (vs:=[(.slice A131 (((r.from_ - k.base).toNat) + n2) c132)]) (cs':=[(J r.view),(J r.view),(J k.base),(.string (tx k.image)),(.slice A131 (((r.from_ - k.base).toNat) + n2) c132)]) sizeOf22 (H136.ob (i:=1) Z) Z Z Z Z Z Z ?_
         intro w138 hz139 g140 o141
         have H142:Sp [Aa b2 33 (rC r A2 n2 c2),Aa p 141 [(J r.view),(J r.view),(J k.base),(.string (tx k.image)),(.slice A131 (((r.from_ - k.base).toNat) + n2) c132)],Ai 31 11 A131 (((r.from_ - k.base).toNat) + n2) c132 (ents ((k.ents).take ((r.from_ - k.base).toNat) ++ r.ents)),Bd w S] w138:=H136.setB (i:=1) rfl g140 o141 rfl
         have z143:=g140.size
         refine aM ?_
         refine ⟨(H142.sel [0,3] (by decide) Z),?_⟩
         refine cQ (by kernel_rfl) (aQ ?_)
         exact ⟨(by repeat (first | exact aJ _ _ | exact aH _ _ | refine aI ?_ Z _)),A131,c132,(H142.sel [0,1,2,3] (by decide) Z)⟩
        ·refine ⟨_,106463,rfl,by kernel_rfl,?_⟩
         refine zl (J k.base) Bw (H125.ob (i:=1) Z) Z (aM ?_)
         refine ⟨(H125.sel [0,3] (by decide) Z),?_⟩
         try have hw144:=Bh hb57
         try have hw145:=Bh hb62
         refine zr 13 114655 Z (by kernel_rfl) (H125.sel [0,3] (by decide) Z) (fun wq hq=>bJ (r:=(((r.from_ - k.base).toNat:Nat):Int)) Z Z (by rw [Dl (by omega) (by omega)]; omega)) (cO (i:=5) (by kernel_rfl) ?_)
         refine ⟨_,114687,rfl,by kernel_rfl,?_⟩
         refine zl (.slice A n c) lo22 (H125.ob (i:=1) Z) Z (aM ?_)
         refine ⟨(H125.sel [0,3] (by decide) Z),?_⟩
         refine zr 14 131071 Z (by kernel_rfl) (H125.sel [0,3] (by decide) Z) (fun wq hq=>bU (i:=((r.from_ - k.base).toNat)) underlying22 sizeOf31 Z Z Z (by omega)) (cO (i:=17) (by kernel_rfl) ?_)
         refine ⟨_,262143,rfl,by kernel_rfl,?_⟩
         have H146:Sp [Aa b2 33 (rC r A2 n2 c2),Aa p 141 [(J r.view),(J r.view),(J k.base),(.string (tx k.image)),(.slice A n c)],Ai 31 11 A ((r.from_ - k.base).toNat) c (ents ((k.ents).take ((r.from_ - k.base).toNat))),Bd w S] w123:=H125.takeR (i:=2) rfl (by omega) (ents_take _ _) rfl
         refine cL (base:=0) (xss:=(ents ((k.ents).take ((r.from_ - k.base).toNat)))) (yss:=(ents r.ents)) el22 (H146.wr (i:=2) Z) Z ((hr2.st (H146.chg (i:=3) Z)).rd) Z (by simp only [Aq,Au,Ar,Am,Ak,Ap,List.length_append,List.length_cons,List.length_nil,List.length_take,List.length_drop,List.length_map,Cr,Dp,Bj,Bk]; try omega) (ents_one _) (by omega) (by omega) (by omega) Z Z ?_
         intro w147 A148 c149 g150 ow151 nx152
         have H153:Sp [Aa b2 33 (rC r A2 n2 c2),Aa p 141 [(J r.view),(J r.view),(J k.base),(.string (tx k.image)),(.slice A n c)],Ai 31 11 A148 (((r.from_ - k.base).toNat) + n2) c149 (ents ((k.ents).take ((r.from_ - k.base).toNat) ++ r.ents)),Bd w S] w147:=H146.setR (i:=2) rfl g150 ((ents_app _ _).symm ▸ ow151) nx152 rfl
         have z154:=g150.size
         refine aM ?_
         refine ⟨(H153.sel [0,3] (by decide) Z),?_⟩
         refine zr 18 524287 Z (by kernel_rfl) (H153.sel [0,3] (by decide) Z) (fun wq hq=>bX Z) (zr 19 1048575 Z (by kernel_rfl) (H153.sel [0,3] (by decide) Z) (fun wq hq=>Co (b:=⟨p,0,none⟩) Z Z) (zr 20 2097151 Z (by kernel_rfl) (H153.sel [0,3] (by decide) Z) (fun wq hq=>Cv (b:=⟨p,4,none⟩) Z Z) (cO (i:=21) (by kernel_rfl) ?_)))
         refine ⟨_,4194303,rfl,by kernel_rfl,?_⟩
         refine bE (vs:=[(.slice A148 (((r.from_ - k.base).toNat) + n2) c149)]) (cs':=[(J r.view),(J r.view),(J k.base),(.string (tx k.image)),(.slice A148 (((r.from_ - k.base).toNat) + n2) c149)]) sizeOf22 (H153.ob (i:=1) Z) Z Z Z Z Z Z ?_
         intro w155 hz156 g157 o158
         have H159:Sp [Aa b2 33 (rC r A2 n2 c2),Aa p 141 [(J r.view),(J r.view),(J k.base),(.string (tx k.image)),(.slice A148 (((r.from_ - k.base).toNat) + n2) c149)],Ai 31 11 A148 (((r.from_ - k.base).toNat) + n2) c149 (ents ((k.ents).take ((r.from_ - k.base).toNat) ++ r.ents)),Bd w S] w155:=H153.setB (i:=1) rfl g157 o158 rfl
         have z160:=g157.size
         refine aM ?_
         refine ⟨(H159.sel [0,3] (by decide) Z),?_⟩
         refine cQ (by kernel_rfl) (aQ ?_)
         exact ⟨(by repeat (first | exact aJ _ _ | exact aH _ _ | refine aI ?_ Z _)),A148,c149,(H159.sel [0,1,2,3] (by decide) Z)⟩
       ·rintro ρc122 w161 ho162 ⟨A109,c110,H163⟩
        obtain ⟨jc122,rfl⟩:=ho162.shape0
        clear ho162
        have z164:=(H163.chg (i:=3) rfl).size
        refine inB.n (aQ (aD (aG (cT (zm (.pointer (some ⟨p,0,none⟩)) Z (zg Z (bX Z) (zg Z (Co (b:=⟨p,0,none⟩) Z Z) (zg Z (Cv (b:=⟨p,4,none⟩) Z Z) (zl (.slice A109 (((r.from_ - k.base).toNat) + n2) c110) lo22 (H163.ob (i:=1) Z) Z ?_)))))))))
        have hmk165 : As k r = (0, (⟨r.view, r.view, k.base, k.image, (k.ents).take ((r.from_ - k.base).toNat) ++ r.ents⟩ : Kept)) := by
                unfold As Dm
                simp [h9,h36,h37,hb57,hb62]
        have hln:=H163.len (i:=2) rfl
        have hcn:=H163.cap (i:=2) rfl
        simp only [Aq,Au,Ar,Am,Ak,Ap,List.length_append,List.length_cons,List.length_nil,List.length_take,List.length_drop,List.length_map,Cr,Dp,Bj,Bk] at hln
        refine zg Z (bR underlying22 Z) ?_
        refine zc ((4000:Int) < ((((r.from_ - k.base).toNat) + n2:Nat):Int)) Z (fun r hr=>bN Z Z hr) (fun h166=>?_) (fun h166=>?_)
        ·refine za bT Z (cS (aE Z (cT (za (J 2) Z (cS (aB (inB.r (aR (aO (v:=(J 2)) (Ba Z Z) ?_)))))))))
         have hx:(Cb (As k r)).1 = 2:=by
           rw [hmk165]; unfold Cb
           rw [if_pos rfl,if_pos (by show 4000 < (List.length _); simp only [Aq,Au,Ar,Am,Ak,Ap,List.length_append,List.length_cons,List.length_nil,List.length_take,List.length_drop,List.length_map,Cr,Dp,Bj,Bk]; omega)]
         exact ⟨(⟨r.view,r.view,k.base,k.image,(k.ents).take ((r.from_ - k.base).toNat) ++ r.ents⟩:Kept),_,_,_,Bi hx.symm,(H163.sel [1,2,3] (by decide) rfl),fun h0=>by rw [hx] at h0; cases h0⟩
        ·refine za bF Z (cS (aF Z (cT (zm (.pointer (some ⟨p,0,none⟩)) Z (zg Z (bX Z) (zg Z (Co (b:=⟨p,0,none⟩) Z Z) (zg Z (bW Z (Aj (cs:=[(J r.view),(J r.view),(J k.base),(.string (tx k.image)),(.slice A109 (((r.from_ - k.base).toNat) + n2) c110)]) Ct (H163.ob (i:=1) Z).cl)) (aU call57 (opCheck_ _ _ _ (⟨r.view,r.view,k.base,k.image,(k.ents).take ((r.from_ - k.base).toNat) ++ r.ents⟩:Kept) (KeptR.of (k:=(⟨r.view,r.view,k.base,k.image,(k.ents).take ((r.from_ - k.base).toNat) ++ r.ents⟩:Kept)) (n:=((r.from_ - k.base).toNat) + n2) (c:=c110) (H163.rowrd (i:=2) Z) (by show ((r.from_ - k.base).toNat) + n2 = ((k.ents).take ((r.from_ - k.base).toNat) ++ r.ents).length; (try simp only [List.length_append,List.length_cons,List.length_nil,List.length_take,List.length_drop]); all_goals omega) (by omega) (by omega) (by first | assumption | (show List.length _ ≤ _; first | assumption | decide | omega))) (Nat.le_refl _)) Z Z Z ?_))))))))
         rintro _ w167 ⟨rfl,g168⟩
         have H169:=H163.grow g168
         have z170:=g168.size
         refine zc (((if Cn (⟨r.view,r.view,k.base,k.image,(k.ents).take ((r.from_ - k.base).toNat) ++ r.ents⟩:Kept) then 0 else 1):Int) ≠ (0:Int)) Z (fun r hr=>bQ Z Z hr) (fun h171=>?_) (fun h171=>?_)
         ·refine za bT Z (cS (aE Z (cT (za (J 141) Z (cS (aB (inB.r (aR (aO (v:=(J 141)) (Ba Z Z) ?_)))))))))
          have hx:(Cb (As k r)).1 = 141:=by
            rw [hmk165]; unfold Cb
            rw [if_pos rfl,if_neg (by show ¬ 4000 < (List.length _); simp only [Aq,Au,Ar,Am,Ak,Ap,List.length_append,List.length_cons,List.length_nil,List.length_take,List.length_drop,List.length_map,Cr,Dp,Bj,Bk]; omega),if_neg (by have:=ite_ne0 h171; intro h0; rw [h0] at this; cases this)]
          exact ⟨(⟨r.view,r.view,k.base,k.image,(k.ents).take ((r.from_ - k.base).toNat) ++ r.ents⟩:Kept),_,_,_,Bi hx.symm,(H169.sel [1,2,3] (by decide) rfl),fun h0=>by rw [hx] at h0; cases h0⟩
         ·refine za bF Z (cS (aF Z (aA (inB.n (aQ (cT (za (J 0) Z (cS (aB (aO (v:=(J 0)) (Ba Z Z) ?_))))))))))
          have hx:Cb (As k r) = (0,(⟨r.view,r.view,k.base,k.image,(k.ents).take ((r.from_ - k.base).toNat) ++ r.ents⟩:Kept)):=by
            rw [hmk165]; unfold Cb
            rw [if_pos rfl,if_neg (by show ¬ 4000 < (List.length _); simp only [Aq,Au,Ar,Am,Ak,Ap,List.length_append,List.length_cons,List.length_nil,List.length_take,List.length_drop,List.length_map,Cr,Dp,Bj,Bk]; omega),if_pos (by exact ite_eq0 h171)]
          exact ⟨(⟨r.view,r.view,k.base,k.image,(k.ents).take ((r.from_ - k.base).toNat) ++ r.ents⟩:Kept),_,_,_,by rw [hx],(H169.sel [1,2,3] (by decide) Z),fun _=>by rw [hx]⟩
   ·refine za bF Z (cS (aF Z (aL ?_)))
    refine zc ((r.kind:Int) = (5:Int)) Z (fun r hr=>bP Z Z hr) (fun h172=>?_) (fun h172=>?_)
    ·refine za bT Z (cS (aE Z (aD (aW (fun wq=>World.grownBy w1 wq none) Tryz.mixed (by kernel_rfl) ⟨Z,rfl,rfl,Nat.le_refl _,fun _ _ _=>rfl⟩ (QL.go Z Z Z (fun wq gq=>fa33_1 (b:=⟨b2,1,none⟩) Z Z) (QL.go Z Z Z (fun wq gq=>bW Z (Ax Bw (Ob.cell (v:=(J r.view)) ((H7.grow gq).ob (i:=0) Z) Z))) (QL.go Z Z Z (fun wq gq=>aX (v:=(.pointer (some ⟨p,0,none⟩))) Z) (QL.go Z Z Z (fun wq gq=>bX Z) (QL.go Z Z Z (fun wq gq=>Co (b:=⟨p,0,none⟩) Z Z) (QL.go Z Z Z (fun wq gq=>fa24_0 (b:=⟨p,0,none⟩) Z Z) (QL.go Z Z Z (fun wq gq=>bW Z (Ax Bw (Ob.cell (v:=(J k.view)) ((H7.grow gq).ob (i:=1) Z) Z))) ?_)))))))))))
     refine QL.br (p:=(r.view:Int) < (k.view:Int)) Z Z Z (fun r hr wq gq=>bL Z Z hr) (fun h173=>?_) (fun h173=>?_)
     ·refine QL.nil ?_
      intro w174 g175
      have H176:=H7.grow g175
      have z177:=g175.size
      refine aQ (aE Z (cT (za (J 141) Z (cS (aB (inB.r (aR (aO (v:=(J 141)) (Ba Z Z) ?_))))))))
      have hx:(Cb (As k r)).1 = 141:=by
        unfold As Dm
        simp [Cb,h9,h36,h172,h173]
      exact ⟨k,_,_,_,Bi hx.symm,(H176.sel [1,2,3] (by decide) rfl),fun h0=>by rw [hx] at h0; cases h0⟩
     ·refine QL.nil ?_
      intro w178 g179
      have H180:=H7.grow g179
      have z181:=g179.size
      refine aQ (aF Z (aA (inB.n (aQ (cT (zm (.pointer (some ⟨p,0,none⟩)) Z (zg Z (bX Z) (zg Z (Co (b:=⟨p,0,none⟩) Z Z) (zg Z (bW Z (Aj (cs:=[(J k.view),(J k.normal),(J k.base),(.string (tx k.image)),(.slice A n c)]) Ct (H180.ob (i:=1) Z).cl)) (aU call125 (last_ _ _ _ k (KeptR.of (k:=k) (n:=n) (c:=c) (H180.rowrd (i:=2) Z) (by show n = (k.ents).length; (try simp only [List.length_append,List.length_cons,List.length_nil,List.length_take,List.length_drop]); all_goals omega) (by omega) (by omega) (by first | assumption | (show List.length _ ≤ _; first | assumption | decide | omega))) (Nat.le_refl _) hkk) Z Z Z ?_))))))))))
      rintro _ w182 ⟨rfl,g183⟩
      have H184:=H180.grow g183
      have z185:=g183.size
      refine za (J (k.base + (k.ents.length:Int))) Z (cS (aD (cT (zg Z (fa33_0 (b:=⟨b2,0,none⟩) Z Z) (zl (J r.kind) lo26 (H184.ob (i:=0) Z) Z (cS (aG (cT (zg Z (bP (r:=false) Z Z (decide_eq_false (by omega))) (za bF Z (cS (aF Z (cT (zg Z (bP (r:=false) Z Z (decide_eq_false (by omega))) (za bF Z (cS (aF Z (cT ?_))))))))))))))))))
      refine zg Z (bP (r:=false) Z Z (decide_eq_false (by omega))) (za bF Z (cS (aF Z (cT (zg Z (bP (r:=false) Z Z (decide_eq_false (by omega))) (za bF Z (cS (aF Z (cT (zg Z (bP (r:=true) Z Z (decide_eq_true (by omega))) (za bT Z (cS (aE Z (aD (cT (zg Z (fa33_3 (b:=⟨b2,3,none⟩) Z Z) (zl (J r.number) Bw (H184.ob (i:=0) Z) Z ?_)))))))))))))))))
      refine aU call122 (within_oplog _ r.number 0 900000000) Z Z Z ?_
      rintro _ _ ⟨rfl,rfl⟩
      rcases hb189:(Az r.number 0 900000000) with _ | _
      ·refine zg Z (bC (b:=false) Z) (zm bT Z (zo Z (zo Z (zo Z (zo Z (zo Z (zo Z (zT bT Z (cS (aE Z (cT (za (J 140) Z ?_))))))))))))
       refine cS (aB (aR (inB.r (aR (aO (v:=(J 140)) (Ba Z Z) ?_)))))
       have hx:(Cb (As k r)).1 = 140:=by
         unfold As Dm
         simp [Cb,h9,h36,h172,h173,hb189]
       exact ⟨k,_,_,_,Bi hx.symm,(H184.sel [1,2,3] (by decide) rfl),fun h0=>by rw [hx] at h0; cases h0⟩
      ·have hw186:=Bh hb189
       refine zg Z (bC (b:=true) Z) (zm bF Z (zg Z (fa33_6 (b:=⟨b2,16,none⟩) Z Z) (zl (.slice A2 n2 c2) lo22 (H184.ob (i:=0) Z) Z (zg Z (fa33_3 (b:=⟨b2,3,none⟩) Z Z) (zl (J r.number) Bw (H184.ob (i:=0) Z) Z (aU call123 (follows_ _ ⟨A2,n2,c2⟩ r.ents r.number _ (by first | assumption | rfl | omega) (by show n2 ≤ _; omega) ((hr2.st (H184.chg (i:=3) Z)).rd)) Z Z Z ?_))))))
       rintro _ w190 ⟨rfl,g191⟩
       have H192:=H184.grow g191
       have z193:=g191.size
       rcases hb194:(follB r.ents r.number) with _ | _
       ·refine zg Z (bC (b:=false) Z) (zF bT Z (cS (aE Z (cT (za (J 140) Z (cS (aB (aR (inB.r (aR (aO (v:=(J 140)) (Ba Z Z) ?_)))))))))))
        have hx:(Cb (As k r)).1 = 140:=by
          unfold As Dm
          simp [Cb,h9,h36,h172,h173,hb189,hb194]
        exact ⟨k,_,_,_,Bi hx.symm,(H192.sel [1,2,3] (by decide) rfl),fun h0=>by rw [hx] at h0; cases h0⟩
       ·refine zg Z (bC (b:=true) Z) (zF bF Z (cS (aF Z (aA (aQ (cN (fun wq=>Sp [Aa b2 33 (rC r A2 n2 c2),Ai 31 11 A n c (ents k.ents),Bd w S] wq) Tryz.mixed Z ?_))))))
        intro w195 g196
        have H197:=H192.grow g196
        have z198:=g196.size
        refine zr 0 1 Z (by kernel_rfl) (H197.sel [0,2,3] (by decide) Z) (fun wq hq=>aX (v:=(.pointer (some ⟨p,0,none⟩))) Z) (zr 1 3 Z (by kernel_rfl) (H197.sel [0,2,3] (by decide) Z) (fun wq hq=>fa33_1 (b:=⟨b2,1,none⟩) Z Z) (zr 3 11 Z (by kernel_rfl) (H197.sel [0,2,3] (by decide) Z) (fun wq hq=>fa33_1 (b:=⟨b2,1,none⟩) Z Z) (zr 5 43 Z (by kernel_rfl) (H197.sel [0,2,3] (by decide) Z) (fun wq hq=>fa33_3 (b:=⟨b2,3,none⟩) Z Z) (zr 7 171 Z (by kernel_rfl) (H197.sel [0,2,3] (by decide) Z) (fun wq hq=>fa33_4 (b:=⟨b2,4,none⟩) Z Z) (zr 9 683 Z (by kernel_rfl) (H197.sel [0,2,3] (by decide) Z) (fun wq hq=>fa33_6 (b:=⟨b2,16,none⟩) Z Z) (zr 2 687 Z (by kernel_rfl) (H197.sel [0,2,3] (by decide) Z) (fun wq hq=>bW Z (Ax Bw (Ob.cell (v:=(J r.view)) (hq.ob (i:=0) Z) Z))) (zr 4 703 Z (by kernel_rfl) (H197.sel [0,2,3] (by decide) Z) (fun wq hq=>bW Z (Ax Bw (Ob.cell (v:=(J r.view)) (hq.ob (i:=0) Z) Z))) ?_)))))))
        refine zr 6 767 Z (by kernel_rfl) (H197.sel [0,2,3] (by decide) Z) (fun wq hq=>bW Z (Ax Bw (Ob.cell (v:=(J r.number)) (hq.ob (i:=0) Z) Z))) (zr 8 1023 Z (by kernel_rfl) (H197.sel [0,2,3] (by decide) Z) (fun wq hq=>bW Z (Ax lo9 (Ob.cell (v:=(.string (tx r.image))) (hq.ob (i:=0) Z) Z))) (zr 10 2047 Z (by kernel_rfl) (H197.sel [0,2,3] (by decide) Z) (fun wq hq=>bW Z (Ax lo22 (Ob.cell (v:=(.slice A2 n2 c2)) (hq.ob (i:=0) Z) Z))) (cO (i:=11) (by kernel_rfl) ?_)))
        refine ⟨_,4095,rfl,by kernel_rfl,?_⟩
        refine aU call89 (cloneEnt _ r.ents _ _ _ _ ((hr2.st (H197.chg (i:=3) Z)).rd) (by (try simp only [List.length_append,List.length_cons,List.length_nil,List.length_take,List.length_drop]); all_goals omega) (by omega)) Z Z Z ?_
        rintro _ w202 ⟨A199,c200,rfl,g203,ow201⟩
        have H204:Sp [Ai 31 11 A199 n2 c200 (ents r.ents),Aa b2 33 (rC r A2 n2 c2),Aa p 141 [(J k.view),(J k.normal),(J k.base),(.string (tx k.image)),(.slice A n c)],Ai 31 11 A n c (ents k.ents),Bd w S] w202:=H197.newO g203 ow201 (by simp only [Aq,Au,Ar,Am,Ak,Ap,List.length_append,List.length_cons,List.length_nil,List.length_take,List.length_drop,List.length_map,Cr,Dp,Bj,Bk]; omega) (Nat.le_refl _)
        have z205:=g203.size
        refine aM ?_
        refine ⟨(H204.sel [1,3,4] (by decide) Z),?_⟩
        refine zr 12 8191 Z (by kernel_rfl) (H204.sel [1,3,4] (by decide) Z) (fun wq hq=>bY (cs:=[(J r.view),(J r.view),(J r.number),(.string (tx r.image)),(.slice A199 n2 c200)]) bd24 Z) (zr 13 16383 Z (by kernel_rfl) (H204.sel [1,3,4] (by decide) Z) (fun wq hq=>bX Z) (zr 14 32767 Z (by kernel_rfl) (H204.sel [1,3,4] (by decide) Z) (fun wq hq=>Co (b:=⟨p,0,none⟩) Z Z) (cO (i:=15) (by kernel_rfl) ?_)))
        refine ⟨_,65535,rfl,by kernel_rfl,?_⟩
        refine bE (vs:=[(J r.view),(J r.view),(J r.number),(.string (tx r.image)),(.slice A199 n2 c200)]) (cs':=[(J r.view),(J r.view),(J r.number),(.string (tx r.image)),(.slice A199 n2 c200)]) sizeOf24 (H204.ob (i:=2) Z) Z Z Z Z Z Z ?_
        intro w206 hz207 g208 o209
        have H210:Sp [Ai 31 11 A199 n2 c200 (ents r.ents),Aa b2 33 (rC r A2 n2 c2),Aa p 141 [(J r.view),(J r.view),(J r.number),(.string (tx r.image)),(.slice A199 n2 c200)],Ai 31 11 A n c (ents k.ents),Bd w S] w206:=H204.setB (i:=2) rfl g208 o209 rfl
        have z211:=g208.size
        refine aM ?_
        refine ⟨(H210.sel [1,3,4] (by decide) Z),?_⟩
        refine cQ (by kernel_rfl) (inB.n (aQ (aD (aG (cT (zm (.pointer (some ⟨p,0,none⟩)) Z (zg Z (bX Z) (zg Z (Co (b:=⟨p,0,none⟩) Z Z) (zg Z (Cv (b:=⟨p,4,none⟩) Z Z) (zl (.slice A199 n2 c200) lo22 (H210.ob (i:=2) Z) Z ?_))))))))))
        have hmk212 : As k r = (0, (⟨r.view, r.view, r.number, r.image, r.ents⟩ : Kept)) := by
                unfold As Dm
                simp [h9,h36,h172,h173,hb189,hb194]
        have hln:=H210.len (i:=0) rfl
        have hcn:=H210.cap (i:=0) rfl
        simp only [Aq,Au,Ar,Am,Ak,Ap,List.length_append,List.length_cons,List.length_nil,List.length_take,List.length_drop,List.length_map,Cr,Dp,Bj,Bk] at hln
        refine zg Z (bR underlying22 Z) ?_
        refine zc ((4000:Int) < ((n2:Nat):Int)) Z (fun r hr=>bN Z Z hr) (fun h213=>?_) (fun h213=>?_)
        ·refine za bT Z (cS (aE Z (cT (za (J 2) Z (cS (aB (inB.r (aR (aO (v:=(J 2)) (Ba Z Z) ?_)))))))))
         have hx:(Cb (As k r)).1 = 2:=by
           rw [hmk212]; unfold Cb
           rw [if_pos rfl,if_pos (by show 4000 < (List.length _); simp only [Aq,Au,Ar,Am,Ak,Ap,List.length_append,List.length_cons,List.length_nil,List.length_take,List.length_drop,List.length_map,Cr,Dp,Bj,Bk]; omega)]
         exact ⟨(⟨r.view,r.view,r.number,r.image,r.ents⟩:Kept),_,_,_,Bi hx.symm,(H210.sel [2,0,4] (by decide) rfl),fun h0=>by rw [hx] at h0; cases h0⟩
        ·refine za bF Z (cS (aF Z (cT (zm (.pointer (some ⟨p,0,none⟩)) Z (zg Z (bX Z) (zg Z (Co (b:=⟨p,0,none⟩) Z Z) (zg Z (bW Z (Aj (cs:=[(J r.view),(J r.view),(J r.number),(.string (tx r.image)),(.slice A199 n2 c200)]) Ct (H210.ob (i:=2) Z).cl)) (aU call57 (opCheck_ _ _ _ (⟨r.view,r.view,r.number,r.image,r.ents⟩:Kept) (KeptR.of (k:=(⟨r.view,r.view,r.number,r.image,r.ents⟩:Kept)) (n:=n2) (c:=c200) (H210.rowrd (i:=0) Z) (by show n2 = (r.ents).length; (try simp only [List.length_append,List.length_cons,List.length_nil,List.length_take,List.length_drop]); all_goals omega) (by omega) (by omega) (by first | assumption | (show List.length _ ≤ _; first | assumption | decide | omega))) (Nat.le_refl _)) Z Z Z ?_))))))))
         rintro _ w214 ⟨rfl,g215⟩
         have H216:=H210.grow g215
         have z217:=g215.size
         refine zc (((if Cn (⟨r.view,r.view,r.number,r.image,r.ents⟩:Kept) then 0 else 1):Int) ≠ (0:Int)) Z (fun r hr=>bQ Z Z hr) (fun h218=>?_) (fun h218=>?_)
         ·refine za bT Z (cS (aE Z (cT (za (J 141) Z (cS (aB (inB.r (aR (aO (v:=(J 141)) (Ba Z Z) ?_)))))))))
          have hx:(Cb (As k r)).1 = 141:=by
            rw [hmk212]; unfold Cb
            rw [if_pos rfl,if_neg (by show ¬ 4000 < (List.length _); simp only [Aq,Au,Ar,Am,Ak,Ap,List.length_append,List.length_cons,List.length_nil,List.length_take,List.length_drop,List.length_map,Cr,Dp,Bj,Bk]; omega),if_neg (by have:=ite_ne0 h218; intro h0; rw [h0] at this; cases this)]
          exact ⟨(⟨r.view,r.view,r.number,r.image,r.ents⟩:Kept),_,_,_,Bi hx.symm,(H216.sel [2,0,4] (by decide) rfl),fun h0=>by rw [hx] at h0; cases h0⟩
         ·refine za bF Z (cS (aF Z (aA (inB.n (aQ (cT (za (J 0) Z (cS (aB (aO (v:=(J 0)) (Ba Z Z) ?_))))))))))
          have hx:Cb (As k r) = (0,(⟨r.view,r.view,r.number,r.image,r.ents⟩:Kept)):=by
            rw [hmk212]; unfold Cb
            rw [if_pos rfl,if_neg (by show ¬ 4000 < (List.length _); simp only [Aq,Au,Ar,Am,Ak,Ap,List.length_append,List.length_cons,List.length_nil,List.length_take,List.length_drop,List.length_map,Cr,Dp,Bj,Bk]; omega),if_pos (by exact ite_eq0 h218)]
          exact ⟨(⟨r.view,r.view,r.number,r.image,r.ents⟩:Kept),_,_,_,by rw [hx],(H216.sel [2,0,4] (by decide) Z),fun _=>by rw [hx]⟩
    ·refine za bF Z (cS (aF Z (aA (inB.n (aQ (cT (zm (.pointer (some ⟨p,0,none⟩)) Z (zg Z (bX Z) (zg Z (Co (b:=⟨p,0,none⟩) Z Z) (zg Z (bW Z (Aj (cs:=[(J k.view),(J k.normal),(J k.base),(.string (tx k.image)),(.slice A n c)]) Ct (H7.ob (i:=1) Z).cl)) (aU call125 (last_ _ _ _ k (KeptR.of (k:=k) (n:=n) (c:=c) (H7.rowrd (i:=2) Z) (by show n = (k.ents).length; (try simp only [List.length_append,List.length_cons,List.length_nil,List.length_take,List.length_drop]); all_goals omega) (by omega) (by omega) (by first | assumption | (show List.length _ ≤ _; first | assumption | decide | omega))) (Nat.le_refl _) hkk) Z Z Z ?_)))))))))))
     rintro _ w219 ⟨rfl,g220⟩
     have H221:=H7.grow g220
     have z222:=g220.size
     refine za (J (k.base + (k.ents.length:Int))) Z (cS (aD (cT (zg Z (fa33_0 (b:=⟨b2,0,none⟩) Z Z) (zl (J r.kind) lo26 (H221.ob (i:=0) Z) Z (cS (aG (cT (zg Z (bP (r:=false) Z Z (decide_eq_false (by omega))) (za bF Z (cS (aF Z (cT ?_)))))))))))))
     refine zc ((r.kind:Int) = (2:Int)) Z (fun r hr=>bP Z Z hr) (fun h223=>?_) (fun h223=>?_)
     ·refine za bT Z (cS (aE Z (aD (cT (zg Z (fa33_5 (b:=⟨b2,5,none⟩) Z Z) (zg Z (bW Z (Aj (cs:=[(J r.entry.num),(J r.entry.view),(J r.entry.client),(J r.entry.seq),(J r.entry.op.kind),(J r.entry.op.h),(J r.entry.op.i),(J r.entry.op.n),(J r.entry.op.k),(J r.entry.op.v),(J r.entry.op.t)]) wh31 ((H221.ob (i:=0) Z).sub 5 11))) (cF (cs:=[(J r.entry.num),(J r.entry.view),(J r.entry.client),(J r.entry.seq),(J r.entry.op.kind),(J r.entry.op.h),(J r.entry.op.i),(J r.entry.op.n),(J r.entry.op.k),(J r.entry.op.v),(J r.entry.op.t)]) underlying22 sizeOf31 ze22 Z Z Z (by decide) Z Z Z ?_)))))))
      intro w224 b225 hb226 hz227 g228 o229
      have H230:=H221.newB g228 o229 (by omega)
      have z231:=g228.size
      refine zm (J (k.base + (k.ents.length:Int))) Z (aU call123 (follows_ _ ⟨(some ⟨b225,0,none⟩),1,1⟩ ([r.entry]) (k.base + (k.ents.length:Int)) _ (by first | assumption | rfl | omega) (by show 1 ≤ _; omega) (Ob.rd1 (H230.ob (i:=0) Z) Z)) Z Z Z ?_)
      rintro _ w232 ⟨rfl,g233⟩
      have H234:=H230.grow g233
      have z235:=g233.size
      rcases hb236:(follB ([r.entry]) (k.base + (k.ents.length:Int))) with _ | _
      ·refine zg Z (bC (b:=false) Z) (cS (aE Z (cT (za (J 140) Z (cS (aB (aR (inB.r (aR (aO (v:=(J 140)) (Ba Z Z) ?_))))))))))
       have hx:(Cb (As k r)).1 = 140:=by
         unfold As Dm
         simp [Cb,h9,h36,h172,h223,hb236]
       exact ⟨k,_,_,_,Bi hx.symm,(H234.sel [2,3,4] (by decide) rfl),fun h0=>by rw [hx] at h0; cases h0⟩
      ·refine zg Z (bC (b:=true) Z) (cS (aF Z (aA (aQ ?_))))
       refine CW.mid (fun t=>(Nat.ble 43 t && Nat.ble t 55)) (fun ρ wl => ∃ (A276:Option Addr) (c277:Nat),Sp [Aa b225 31 [(J r.entry.num),(J r.entry.view),(J r.entry.client),(J r.entry.seq),(J r.entry.op.kind),(J r.entry.op.h),(J r.entry.op.i),(J r.entry.op.n),(J r.entry.op.k),(J r.entry.op.v),(J r.entry.op.t)],Aa b2 33 (rC r A2 n2 c2),Aa p 141 [(J k.view),(J k.normal),(J k.base),(.string (tx k.image)),(.slice A276 (n + 1) c277)],Ai 31 11 A276 (n + 1) c277 (ents (k.ents ++ [r.entry])),Bd w S] wl) ?_ ?_
       ·refine cN (fun wq=>Sp [Aa b225 31 [(J r.entry.num),(J r.entry.view),(J r.entry.client),(J r.entry.seq),(J r.entry.op.kind),(J r.entry.op.h),(J r.entry.op.i),(J r.entry.op.n),(J r.entry.op.k),(J r.entry.op.v),(J r.entry.op.t)],Aa b2 33 (rC r A2 n2 c2),Bd w S] wq) Tryz.mixed Z ?_
        intro w290 g291
        have H292:=H234.grow g291
        have z293:=g291.size
        refine zr 0 1 Z (by kernel_rfl) (H292.sel [0,1,4] (by decide) Z) (fun wq hq=>aX (v:=(.pointer (some ⟨p,0,none⟩))) Z) (zr 1 3 Z (by kernel_rfl) (H292.sel [0,1,4] (by decide) Z) (fun wq hq=>aX (v:=(.pointer (some ⟨p,0,none⟩))) Z) (zr 2 7 Z (by kernel_rfl) (H292.sel [0,1,4] (by decide) Z) (fun wq hq=>bX Z) (zr 3 15 Z (by kernel_rfl) (H292.sel [0,1,4] (by decide) Z) (fun wq hq=>Co (b:=⟨p,0,none⟩) Z Z) (zr 4 31 Z (by kernel_rfl) (H292.sel [0,1,4] (by decide) Z) (fun wq hq=>Cv (b:=⟨p,4,none⟩) Z Z) (zr 6 95 Z (by kernel_rfl) (H292.sel [0,1,4] (by decide) Z) (fun wq hq=>fa33_5 (b:=⟨b2,5,none⟩) Z Z) (zr 7 223 Z (by kernel_rfl) (H292.sel [0,1,4] (by decide) Z) (fun wq hq=>bW Z (Aj (cs:=[(J r.entry.num),(J r.entry.view),(J r.entry.client),(J r.entry.seq),(J r.entry.op.kind),(J r.entry.op.h),(J r.entry.op.i),(J r.entry.op.n),(J r.entry.op.k),(J r.entry.op.v),(J r.entry.op.t)]) wh31 ((hq.ob (i:=1) Z).sub 5 11))) ?_))))))
        refine cP (i:=5) (j:=8) (by kernel_rfl) ?_ ?_
        ·refine ⟨_,255,rfl,by kernel_rfl,?_⟩
         refine zl (.slice A n c) lo22 (H292.ob (i:=2) Z) Z (aM ?_)
         refine ⟨(H292.sel [0,1,4] (by decide) Z),?_⟩
         refine cO (i:=8) (by kernel_rfl) ?_
         refine ⟨_,511,rfl,by kernel_rfl,?_⟩
         refine cF (cs:=[(J r.entry.num),(J r.entry.view),(J r.entry.client),(J r.entry.seq),(J r.entry.op.kind),(J r.entry.op.h),(J r.entry.op.i),(J r.entry.op.n),(J r.entry.op.k),(J r.entry.op.v),(J r.entry.op.t)]) underlying22 sizeOf31 ze22 Z Z Z (by decide) Z Z Z ?_
         intro w294 b295 hb296 hz297 g298 o299
         have H300:=H292.newB g298 o299 (by omega)
         have z301:=g298.size
         refine aM ?_
         refine ⟨(H300.sel [1,2,5] (by decide) Z),?_⟩
         refine cO (i:=9) (by kernel_rfl) ?_
         refine ⟨_,1023,rfl,by kernel_rfl,?_⟩
         refine cL (base:=0) (xss:=(ents k.ents)) (yss:=(ents ([r.entry]))) el22 (H300.wr (i:=4) Z) Z (Ob.rd1 (H300.ob (i:=0) Z) Z) Z (by simp only [Aq,Au,Ar,Am,Ak,Ap,List.length_append,List.length_cons,List.length_nil,List.length_take,List.length_drop,List.length_map,Cr,Dp,Bj,Bk]; try omega) (ents_one _) (by omega) (by omega) (by omega) Z Z ?_
         intro w302 A303 c304 g305 ow306 nx307
         have H308:Sp [Aa b295 31 [(J r.entry.num),(J r.entry.view),(J r.entry.client),(J r.entry.seq),(J r.entry.op.kind),(J r.entry.op.h),(J r.entry.op.i),(J r.entry.op.n),(J r.entry.op.k),(J r.entry.op.v),(J r.entry.op.t)],Aa b225 31 [(J r.entry.num),(J r.entry.view),(J r.entry.client),(J r.entry.seq),(J r.entry.op.kind),(J r.entry.op.h),(J r.entry.op.i),(J r.entry.op.n),(J r.entry.op.k),(J r.entry.op.v),(J r.entry.op.t)],Aa b2 33 (rC r A2 n2 c2),Aa p 141 [(J k.view),(J k.normal),(J k.base),(.string (tx k.image)),(.slice A n c)],Ai 31 11 A303 (n + 1) c304 (ents (k.ents ++ [r.entry])),Bd w S] w302:=H300.setR (i:=4) rfl g305 ((ents_app _ _).symm ▸ ow306) nx307 rfl
         have z309:=g305.size
         refine aM ?_
         refine ⟨(H308.sel [1,2,5] (by decide) Z),?_⟩
         refine zr 10 2047 Z (by kernel_rfl) (H308.sel [1,2,5] (by decide) Z) (fun wq hq=>bX Z) (zr 11 4095 Z (by kernel_rfl) (H308.sel [1,2,5] (by decide) Z) (fun wq hq=>Co (b:=⟨p,0,none⟩) Z Z) (zr 12 8191 Z (by kernel_rfl) (H308.sel [1,2,5] (by decide) Z) (fun wq hq=>Cv (b:=⟨p,4,none⟩) Z Z) (cO (i:=13) (by kernel_rfl) ?_)))
         refine ⟨_,16383,rfl,by kernel_rfl,?_⟩
         refine bE (vs:=[(.slice A303 (n + 1) c304)]) (cs':=[(J k.view),(J k.normal),(J k.base),(.string (tx k.image)),(.slice A303 (n + 1) c304)]) sizeOf22 (H308.ob (i:=3) Z) Z Z Z Z Z Z ?_
         intro w310 hz311 g312 o313
         have H314:Sp [Aa b295 31 [(J r.entry.num),(J r.entry.view),(J r.entry.client),(J r.entry.seq),(J r.entry.op.kind),(J r.entry.op.h),(J r.entry.op.i),(J r.entry.op.n),(J r.entry.op.k),(J r.entry.op.v),(J r.entry.op.t)],Aa b225 31 [(J r.entry.num),(J r.entry.view),(J r.entry.client),(J r.entry.seq),(J r.entry.op.kind),(J r.entry.op.h),(J r.entry.op.i),(J r.entry.op.n),(J r.entry.op.k),(J r.entry.op.v),(J r.entry.op.t)],Aa b2 33 (rC r A2 n2 c2),Aa p 141 [(J k.view),(J k.normal),(J k.base),(.string (tx k.image)),(.slice A303 (n + 1) c304)],Ai 31 11 A303 (n + 1) c304 (ents (k.ents ++ [r.entry])),Bd w S] w310:=H308.setB (i:=3) rfl g312 o313 rfl
         have z315:=g312.size
         refine aM ?_
         refine ⟨(H314.sel [1,2,5] (by decide) Z),?_⟩
         refine cQ (by kernel_rfl) (aQ ?_)
         exact ⟨(by repeat (first | exact aJ _ _ | exact aH _ _ | refine aI ?_ Z _)),A303,c304,(H314.sel [1,2,3,4,5] (by decide) Z)⟩
        ·refine ⟨_,479,rfl,by kernel_rfl,?_⟩
         refine cF (cs:=[(J r.entry.num),(J r.entry.view),(J r.entry.client),(J r.entry.seq),(J r.entry.op.kind),(J r.entry.op.h),(J r.entry.op.i),(J r.entry.op.n),(J r.entry.op.k),(J r.entry.op.v),(J r.entry.op.t)]) underlying22 sizeOf31 ze22 Z Z Z (by decide) Z Z Z ?_
         intro w316 b317 hb318 hz319 g320 o321
         have H322:=H292.newB g320 o321 (by omega)
         have z323:=g320.size
         refine aM ?_
         refine ⟨(H322.sel [1,2,5] (by decide) Z),?_⟩
         refine cO (i:=5) (by kernel_rfl) ?_
         refine ⟨_,511,rfl,by kernel_rfl,?_⟩
         refine zl (.slice A n c) lo22 (H322.ob (i:=3) Z) Z (aM ?_)
         refine ⟨(H322.sel [1,2,5] (by decide) Z),?_⟩
         refine cO (i:=9) (by kernel_rfl) ?_
         refine ⟨_,1023,rfl,by kernel_rfl,?_⟩
         refine cL (base:=0) (xss:=(ents k.ents)) (yss:=(ents ([r.entry]))) el22 (H322.wr (i:=4) Z) Z (Ob.rd1 (H322.ob (i:=0) Z) Z) Z (by simp only [Aq,Au,Ar,Am,Ak,Ap,List.length_append,List.length_cons,List.length_nil,List.length_take,List.length_drop,List.length_map,Cr,Dp,Bj,Bk]; try omega) (ents_one _) (by omega) (by omega) (by omega) Z Z ?_
         intro w324 A325 c326 g327 ow328 nx329
         have H330:Sp [Aa b317 31 [(J r.entry.num),(J r.entry.view),(J r.entry.client),(J r.entry.seq),(J r.entry.op.kind),(J r.entry.op.h),(J r.entry.op.i),(J r.entry.op.n),(J r.entry.op.k),(J r.entry.op.v),(J r.entry.op.t)],Aa b225 31 [(J r.entry.num),(J r.entry.view),(J r.entry.client),(J r.entry.seq),(J r.entry.op.kind),(J r.entry.op.h),(J r.entry.op.i),(J r.entry.op.n),(J r.entry.op.k),(J r.entry.op.v),(J r.entry.op.t)],Aa b2 33 (rC r A2 n2 c2),Aa p 141 [(J k.view),(J k.normal),(J k.base),(.string (tx k.image)),(.slice A n c)],Ai 31 11 A325 (n + 1) c326 (ents (k.ents ++ [r.entry])),Bd w S] w324:=H322.setR (i:=4) rfl g327 ((ents_app _ _).symm ▸ ow328) nx329 rfl
         have z331:=g327.size
         refine aM ?_
         refine ⟨(H330.sel [1,2,5] (by decide) Z),?_⟩
         refine zr 10 2047 Z (by kernel_rfl) (H330.sel [1,2,5] (by decide) Z) (fun wq hq=>bX Z) (zr 11 4095 Z (by kernel_rfl) (H330.sel [1,2,5] (by decide) Z) (fun wq hq=>Co (b:=⟨p,0,none⟩) Z Z) (zr 12 8191 Z (by kernel_rfl) (H330.sel [1,2,5] (by decide) Z) (fun wq hq=>Cv (b:=⟨p,4,none⟩) Z Z) (cO (i:=13) (by kernel_rfl) ?_)))
         refine ⟨_,16383,rfl,by kernel_rfl,?_⟩
         refine bE (vs:=[(.slice A325 (n + 1) c326)]) (cs':=[(J k.view),(J k.normal),(J k.base),(.string (tx k.image)),(.slice A325 (n + 1) c326)]) sizeOf22 (H330.ob (i:=3) Z) Z Z Z Z Z Z ?_
         intro w332 hz333 g334 o335
         have H336:Sp [Aa b317 31 [(J r.entry.num),(J r.entry.view),(J r.entry.client),(J r.entry.seq),(J r.entry.op.kind),(J r.entry.op.h),(J r.entry.op.i),(J r.entry.op.n),(J r.entry.op.k),(J r.entry.op.v),(J r.entry.op.t)],Aa b225 31 [(J r.entry.num),(J r.entry.view),(J r.entry.client),(J r.entry.seq),(J r.entry.op.kind),(J r.entry.op.h),(J r.entry.op.i),(J r.entry.op.n),(J r.entry.op.k),(J r.entry.op.v),(J r.entry.op.t)],Aa b2 33 (rC r A2 n2 c2),Aa p 141 [(J k.view),(J k.normal),(J k.base),(.string (tx k.image)),(.slice A325 (n + 1) c326)],Ai 31 11 A325 (n + 1) c326 (ents (k.ents ++ [r.entry])),Bd w S] w332:=H330.setB (i:=3) rfl g334 o335 rfl
         have z337:=g334.size
         refine aM ?_
         refine ⟨(H336.sel [1,2,5] (by decide) Z),?_⟩
         refine cQ (by kernel_rfl) (aQ ?_)
         exact ⟨(by repeat (first | exact aJ _ _ | exact aH _ _ | refine aI ?_ Z _)),A325,c326,(H336.sel [1,2,3,4,5] (by decide) Z)⟩
       ·rintro ρc289 w338 ho339 ⟨A276,c277,H340⟩
        obtain ⟨jc289,rfl⟩:=ho339.shape0
        clear ho339
        have z341:=(H340.chg (i:=4) rfl).size
        refine inB.n (aQ (aD (aG (cT (zm (.pointer (some ⟨p,0,none⟩)) Z (zg Z (bX Z) (zg Z (Co (b:=⟨p,0,none⟩) Z Z) (zg Z (Cv (b:=⟨p,4,none⟩) Z Z) (zl (.slice A276 (n + 1) c277) lo22 (H340.ob (i:=2) Z) Z ?_)))))))))
        have hmk342 : As k r = (0, (⟨k.view, k.normal, k.base, k.image, k.ents ++ [r.entry]⟩ : Kept)) := by
                unfold As Dm
                simp [h9,h36,h172,h223,hb236]
        have hln:=H340.len (i:=3) rfl
        have hcn:=H340.cap (i:=3) rfl
        simp only [Aq,Au,Ar,Am,Ak,Ap,List.length_append,List.length_cons,List.length_nil,List.length_take,List.length_drop,List.length_map,Cr,Dp,Bj,Bk] at hln
        refine zg Z (bR underlying22 Z) ?_
        refine zc ((4000:Int) < ((n + 1:Nat):Int)) Z (fun r hr=>bN Z Z hr) (fun h343=>?_) (fun h343=>?_)
        ·refine za bT Z (cS (aE Z (cT (za (J 2) Z (cS (aB (inB.r (aR (aO (v:=(J 2)) (Ba Z Z) ?_)))))))))
         have hx:(Cb (As k r)).1 = 2:=by
           rw [hmk342]; unfold Cb
           rw [if_pos rfl,if_pos (by show 4000 < (List.length _); simp only [Aq,Au,Ar,Am,Ak,Ap,List.length_append,List.length_cons,List.length_nil,List.length_take,List.length_drop,List.length_map,Cr,Dp,Bj,Bk]; omega)]
         exact ⟨(⟨k.view,k.normal,k.base,k.image,k.ents ++ [r.entry]⟩:Kept),_,_,_,Bi hx.symm,(H340.sel [2,3,4] (by decide) rfl),fun h0=>by rw [hx] at h0; cases h0⟩
        ·refine za bF Z (cS (aF Z (cT (zm (.pointer (some ⟨p,0,none⟩)) Z (zg Z (bX Z) (zg Z (Co (b:=⟨p,0,none⟩) Z Z) (zg Z (bW Z (Aj (cs:=[(J k.view),(J k.normal),(J k.base),(.string (tx k.image)),(.slice A276 (n + 1) c277)]) Ct (H340.ob (i:=2) Z).cl)) (aU call57 (opCheck_ _ _ _ (⟨k.view,k.normal,k.base,k.image,k.ents ++ [r.entry]⟩:Kept) (KeptR.of (k:=(⟨k.view,k.normal,k.base,k.image,k.ents ++ [r.entry]⟩:Kept)) (n:=n + 1) (c:=c277) (H340.rowrd (i:=3) Z) (by show n + 1 = (k.ents ++ [r.entry]).length; (try simp only [List.length_append,List.length_cons,List.length_nil,List.length_take,List.length_drop]); all_goals omega) (by omega) (by omega) (by first | assumption | (show List.length _ ≤ _; first | assumption | decide | omega))) (Nat.le_refl _)) Z Z Z ?_))))))))
         rintro _ w344 ⟨rfl,g345⟩
         have H346:=H340.grow g345
         have z347:=g345.size
         refine zc (((if Cn (⟨k.view,k.normal,k.base,k.image,k.ents ++ [r.entry]⟩:Kept) then 0 else 1):Int) ≠ (0:Int)) Z (fun r hr=>bQ Z Z hr) (fun h348=>?_) (fun h348=>?_)
         ·refine za bT Z (cS (aE Z (cT (za (J 141) Z (cS (aB (inB.r (aR (aO (v:=(J 141)) (Ba Z Z) ?_)))))))))
          have hx:(Cb (As k r)).1 = 141:=by
            rw [hmk342]; unfold Cb
            rw [if_pos rfl,if_neg (by show ¬ 4000 < (List.length _); simp only [Aq,Au,Ar,Am,Ak,Ap,List.length_append,List.length_cons,List.length_nil,List.length_take,List.length_drop,List.length_map,Cr,Dp,Bj,Bk]; omega),if_neg (by have:=ite_ne0 h348; intro h0; rw [h0] at this; cases this)]
          exact ⟨(⟨k.view,k.normal,k.base,k.image,k.ents ++ [r.entry]⟩:Kept),_,_,_,Bi hx.symm,(H346.sel [2,3,4] (by decide) rfl),fun h0=>by rw [hx] at h0; cases h0⟩
         ·refine za bF Z (cS (aF Z (aA (inB.n (aQ (cT (za (J 0) Z (cS (aB (aO (v:=(J 0)) (Ba Z Z) ?_))))))))))
          have hx:Cb (As k r) = (0,(⟨k.view,k.normal,k.base,k.image,k.ents ++ [r.entry]⟩:Kept)):=by
            rw [hmk342]; unfold Cb
            rw [if_pos rfl,if_neg (by show ¬ 4000 < (List.length _); simp only [Aq,Au,Ar,Am,Ak,Ap,List.length_append,List.length_cons,List.length_nil,List.length_take,List.length_drop,List.length_map,Cr,Dp,Bj,Bk]; omega),if_pos (by exact ite_eq0 h348)]
          exact ⟨(⟨k.view,k.normal,k.base,k.image,k.ents ++ [r.entry]⟩:Kept),_,_,_,by rw [hx],(H346.sel [2,3,4] (by decide) Z),fun _=>by rw [hx]⟩
     ·refine za bF Z (cS (aF Z (cT (zg Z (bP (r:=false) Z Z (decide_eq_false (by omega))) (za bF Z (cS (aF Z (cT ?_))))))))
      refine zc ((r.kind:Int) = (4:Int)) Z (fun r hr=>bP Z Z hr) (fun h349=>?_) (fun h349=>?_)
      ·refine za bT Z (cS (aE Z (aD (aD (aW (fun wq=>World.grownBy w219 wq none) Tryz.mixed (by kernel_rfl) ⟨Z,rfl,rfl,Nat.le_refl _,fun _ _ _=>rfl⟩ (QL.go Z Z Z (fun wq gq=>fa33_3 (b:=⟨b2,3,none⟩) Z Z) (QL.go Z Z Z (fun wq gq=>bW Z (Ax Bw (Ob.cell (v:=(J r.number)) ((H221.grow gq).ob (i:=0) Z) Z))) (QL.go Z Z Z (fun wq gq=>aX (v:=(.pointer (some ⟨p,0,none⟩))) Z) (QL.go Z Z Z (fun wq gq=>bX Z) (QL.go Z Z Z (fun wq gq=>Co (b:=⟨p,0,none⟩) Z Z) (QL.go Z Z Z (fun wq gq=>fa24_2 (b:=⟨p,2,none⟩) Z Z) (QL.go Z Z Z (fun wq gq=>bW Z (Ax Bw (Ob.cell (v:=(J k.base)) ((H221.grow gq).ob (i:=1) Z) Z))) ?_))))))))))))
       refine QL.br (p:=(r.number:Int) ≤ (k.base:Int)) Z Z Z (fun r hr wq gq=>bM Z Z hr) (fun h350=>?_) (fun h350=>?_)
       ·refine QL.go Z Z Z (fun wq gq=>aX (v:=bT) Z) (QL.out Z Z Z (QL.out Z Z Z (QL.out Z Z Z (QL.out Z Z Z (QL.go Z Z Z (fun wq gq=>aZ (v:=bT) Z Z) (QL.nil ?_))))))
        intro w351 g352
        have H353:=H221.grow g352
        have z354:=g352.size
        refine aQ (aE Z (cT (za (J 140) Z (cS (aB (aR (inB.r (aR (aO (v:=(J 140)) (Ba Z Z) ?_)))))))))
        have hx:(Cb (As k r)).1 = 140:=by
          unfold As Dm
          simp [Cb,h9,h36,h172,h223,h349,h350]
        exact ⟨k,_,_,_,Bi hx.symm,(H353.sel [1,2,3] (by decide) rfl),fun h0=>by rw [hx] at h0; cases h0⟩
       ·refine QL.go Z Z Z (fun wq gq=>aX (v:=bF) Z) (QL.go Z Z Z (fun wq gq=>fa33_3 (b:=⟨b2,3,none⟩) Z Z) (QL.go Z Z Z (fun wq gq=>bW Z (Ax Bw (Ob.cell (v:=(J r.number)) ((H221.grow gq).ob (i:=0) Z) Z))) (QL.go Z Z Z (fun wq gq=>aX (v:=(J (k.base + (k.ents.length:Int)))) Z) ?_)))
        refine QL.br (p:=((k.base + (k.ents.length:Int)):Int) < (r.number:Int)) Z Z Z (fun r hr wq gq=>bN Z Z hr) (fun h355=>?_) (fun h355=>?_)
        ·refine QL.go Z Z Z (fun wq gq=>bA (v:=bT) Z Z) (QL.nil ?_)
         intro w356 g357
         have H358:=H221.grow g357
         have z359:=g357.size
         refine aQ (aE Z (cT (za (J 140) Z (cS (aB (aR (inB.r (aR (aO (v:=(J 140)) (Ba Z Z) ?_)))))))))
         have hx:(Cb (As k r)).1 = 140:=by
           unfold As Dm
           simp [Cb,h9,h36,h172,h223,h349,h350,h355]
         exact ⟨k,_,_,_,Bi hx.symm,(H358.sel [1,2,3] (by decide) rfl),fun h0=>by rw [hx] at h0; cases h0⟩
        ·refine QL.go Z Z Z (fun wq gq=>bA (v:=bF) Z Z) (QL.nil ?_)
         intro w360 g361
         have H362:=H221.grow g361
         have z363:=g361.size
         refine aQ (aF Z (aA (aQ (aD (cH 18 (fun wq=>World.grownBy w360 wq none) Tryz.mixed (by kernel_rfl) ⟨Z,rfl,rfl,Nat.le_refl _,fun _ _ _=>rfl⟩ (QL.go Z Z Z (fun wq gq=>aX (v:=(.pointer (some ⟨p,0,none⟩))) Z) (QL.go Z Z Z (fun wq gq=>aX (v:=(.pointer (some ⟨p,0,none⟩))) Z) (QL.go Z Z Z (fun wq gq=>bX Z) (QL.go Z Z Z (fun wq gq=>Co (b:=⟨p,0,none⟩) Z Z) (QL.go Z Z Z (fun wq gq=>Cv (b:=⟨p,4,none⟩) Z Z) (QL.go Z Z Z (fun wq gq=>bW Z (Ax lo22 (Ob.cell (v:=(.slice A n c)) ((H362.grow gq).ob (i:=1) Z) Z))) (QL.go Z Z Z (fun wq gq=>fa33_3 (b:=⟨b2,3,none⟩) Z Z) (QL.go Z Z Z (fun wq gq=>bW Z (Ax Bw (Ob.cell (v:=(J r.number)) ((H362.grow gq).ob (i:=0) Z) Z))) ?_)))))))))))))
         refine QL.go Z Z Z (fun wq gq=>aX (v:=(.pointer (some ⟨p,0,none⟩))) Z) (QL.go Z Z Z (fun wq gq=>bX Z) (QL.go Z Z Z (fun wq gq=>Co (b:=⟨p,0,none⟩) Z Z) (QL.go Z Z Z (fun wq gq=>fa24_2 (b:=⟨p,2,none⟩) Z Z) (QL.go Z Z Z (fun wq gq=>bW Z (Ax Bw (Ob.cell (v:=(J k.base)) ((H362.grow gq).ob (i:=1) Z) Z))) (QL.go Z Z Z (fun wq gq=>bJ (r:=(((r.number - k.base).toNat:Nat):Int)) Z Z (by rw [Dl (by omega) (by omega)]; omega)) (QL.go Z Z Z (fun wq gq=>bV (i:=((r.number - k.base).toNat)) underlying22 sizeOf31 Z Z (by omega) (by omega) Z) (QL.go Z Z Z (fun wq gq=>bX Z) (QL.go Z Z Z (fun wq gq=>Co (b:=⟨p,0,none⟩) Z Z) (QL.go Z Z Z (fun wq gq=>Cv (b:=⟨p,4,none⟩) Z Z) (QL.nil ?_))))))))))
         intro w367 g368
         have H369:=H362.grow g368
         have z370:=g368.size
         have H371:Sp [Aa b2 33 (rC r A2 n2 c2),Aa p 141 [(J k.view),(J k.normal),(J k.base),(.string (tx k.image)),(.slice A n c)],Ai 31 11 (dropA A c ((r.number - k.base).toNat) 11) (n - ((r.number - k.base).toNat)) (c - ((r.number - k.base).toNat)) (ents ((k.ents).drop ((r.number - k.base).toNat))),Bd w S] w367:=H369.dropR (i:=2) rfl (by omega) (ents_drop _ _) rfl
         refine bE (vs:=[(.slice (dropA A c ((r.number - k.base).toNat) 11) (n - ((r.number - k.base).toNat)) (c - ((r.number - k.base).toNat)))]) (cs':=[(J k.view),(J k.normal),(J k.base),(.string (tx k.image)),(.slice (dropA A c ((r.number - k.base).toNat) 11) (n - ((r.number - k.base).toNat)) (c - ((r.number - k.base).toNat)))]) sizeOf22 (H371.ob (i:=1) Z) Z Z Z Z Z Z ?_
         intro w372 hz373 g374 o375
         have H376:Sp [Aa b2 33 (rC r A2 n2 c2),Aa p 141 [(J k.view),(J k.normal),(J k.base),(.string (tx k.image)),(.slice (dropA A c ((r.number - k.base).toNat) 11) (n - ((r.number - k.base).toNat)) (c - ((r.number - k.base).toNat)))],Ai 31 11 (dropA A c ((r.number - k.base).toNat) 11) (n - ((r.number - k.base).toNat)) (c - ((r.number - k.base).toNat)) (ents ((k.ents).drop ((r.number - k.base).toNat))),Bd w S] w372:=H371.setB (i:=1) rfl g374 o375 rfl
         have z377:=g374.size
         refine cS (cN (fun wq=>Sp [Aa b2 33 (rC r A2 n2 c2),Ai 31 11 (dropA A c ((r.number - k.base).toNat) 11) (n - ((r.number - k.base).toNat)) (c - ((r.number - k.base).toNat)) (ents ((k.ents).drop ((r.number - k.base).toNat))),Bd w S] wq) Tryz.mixed Z ?_)
         intro w378 g379
         have H380:=H376.grow g379
         have z381:=g379.size
         refine zr 0 1 Z (by kernel_rfl) (H380.sel [0,2,3] (by decide) Z) (fun wq hq=>aX (v:=(.pointer (some ⟨p,0,none⟩))) Z) (zr 1 3 Z (by kernel_rfl) (H380.sel [0,2,3] (by decide) Z) (fun wq hq=>aX (v:=(.pointer (some ⟨p,0,none⟩))) Z) (zr 2 7 Z (by kernel_rfl) (H380.sel [0,2,3] (by decide) Z) (fun wq hq=>fa33_3 (b:=⟨b2,3,none⟩) Z Z) (zr 4 23 Z (by kernel_rfl) (H380.sel [0,2,3] (by decide) Z) (fun wq hq=>fa33_4 (b:=⟨b2,4,none⟩) Z Z) (zr 3 31 Z (by kernel_rfl) (H380.sel [0,2,3] (by decide) Z) (fun wq hq=>bW Z (Ax Bw (Ob.cell (v:=(J r.number)) (hq.ob (i:=0) Z) Z))) (zr 6 95 Z (by kernel_rfl) (H380.sel [0,2,3] (by decide) Z) (fun wq hq=>bX Z) (zr 7 223 Z (by kernel_rfl) (H380.sel [0,2,3] (by decide) Z) (fun wq hq=>Co (b:=⟨p,0,none⟩) Z Z) (zr 8 479 Z (by kernel_rfl) (H380.sel [0,2,3] (by decide) Z) (fun wq hq=>fa24_2 (b:=⟨p,2,none⟩) Z Z) ?_)))))))
         refine zr 5 511 Z (by kernel_rfl) (H380.sel [0,2,3] (by decide) Z) (fun wq hq=>bW Z (Ax lo9 (Ob.cell (v:=(.string (tx r.image))) (hq.ob (i:=0) Z) Z))) (cO (i:=9) (by kernel_rfl) ?_)
         refine ⟨_,1023,rfl,by kernel_rfl,?_⟩
         refine bE (vs:=[(J r.number)]) (cs':=[(J k.view),(J k.normal),(J r.number),(.string (tx k.image)),(.slice (dropA A c ((r.number - k.base).toNat) 11) (n - ((r.number - k.base).toNat)) (c - ((r.number - k.base).toNat)))]) sizeOf3 (H380.ob (i:=1) Z) Z Z Z Z Z Z ?_
         intro w382 hz383 g384 o385
         have H386:Sp [Aa b2 33 (rC r A2 n2 c2),Aa p 141 [(J k.view),(J k.normal),(J r.number),(.string (tx k.image)),(.slice (dropA A c ((r.number - k.base).toNat) 11) (n - ((r.number - k.base).toNat)) (c - ((r.number - k.base).toNat)))],Ai 31 11 (dropA A c ((r.number - k.base).toNat) 11) (n - ((r.number - k.base).toNat)) (c - ((r.number - k.base).toNat)) (ents ((k.ents).drop ((r.number - k.base).toNat))),Bd w S] w382:=H380.setB (i:=1) rfl g384 o385 rfl
         have z387:=g384.size
         refine aM ?_
         refine ⟨(H386.sel [0,2,3] (by decide) Z),?_⟩
         refine zr 10 2047 Z (by kernel_rfl) (H386.sel [0,2,3] (by decide) Z) (fun wq hq=>bX Z) (zr 11 4095 Z (by kernel_rfl) (H386.sel [0,2,3] (by decide) Z) (fun wq hq=>Co (b:=⟨p,0,none⟩) Z Z) (zr 12 8191 Z (by kernel_rfl) (H386.sel [0,2,3] (by decide) Z) (fun wq hq=>fa24_3 (b:=⟨p,3,none⟩) Z Z) (cO (i:=13) (by kernel_rfl) ?_)))
         refine ⟨_,16383,rfl,by kernel_rfl,?_⟩
         refine bE (vs:=[(.string (tx r.image))]) (cs':=[(J k.view),(J k.normal),(J r.number),(.string (tx r.image)),(.slice (dropA A c ((r.number - k.base).toNat) 11) (n - ((r.number - k.base).toNat)) (c - ((r.number - k.base).toNat)))]) sizeOf9 (H386.ob (i:=1) Z) Z Z Z Z Z Z ?_
         intro w388 hz389 g390 o391
         have H392:Sp [Aa b2 33 (rC r A2 n2 c2),Aa p 141 [(J k.view),(J k.normal),(J r.number),(.string (tx r.image)),(.slice (dropA A c ((r.number - k.base).toNat) 11) (n - ((r.number - k.base).toNat)) (c - ((r.number - k.base).toNat)))],Ai 31 11 (dropA A c ((r.number - k.base).toNat) 11) (n - ((r.number - k.base).toNat)) (c - ((r.number - k.base).toNat)) (ents ((k.ents).drop ((r.number - k.base).toNat))),Bd w S] w388:=H386.setB (i:=1) rfl g390 o391 rfl
         have z393:=g390.size
         refine aM ?_
         refine ⟨(H392.sel [0,2,3] (by decide) Z),?_⟩
         refine cQ (by kernel_rfl) (inB.n (aQ (aD (aG (cT (zm (.pointer (some ⟨p,0,none⟩)) Z (zg Z (bX Z) (zg Z (Co (b:=⟨p,0,none⟩) Z Z) (zg Z (Cv (b:=⟨p,4,none⟩) Z Z) (zl (.slice (dropA A c ((r.number - k.base).toNat) 11) (n - ((r.number - k.base).toNat)) (c - ((r.number - k.base).toNat))) lo22 (H392.ob (i:=1) Z) Z ?_))))))))))
         have hmk394 : As k r = (0, (⟨k.view, k.normal, r.number, r.image, (k.ents).drop ((r.number - k.base).toNat)⟩ : Kept)) := by
                  unfold As Dm
                  simp [h9,h36,h172,h223,h349,h350,h355]
         have hln:=H392.len (i:=2) rfl
         have hcn:=H392.cap (i:=2) rfl
         simp only [Aq,Au,Ar,Am,Ak,Ap,List.length_append,List.length_cons,List.length_nil,List.length_take,List.length_drop,List.length_map,Cr,Dp,Bj,Bk] at hln
         refine zg Z (bR underlying22 Z) ?_
         refine zc ((4000:Int) < ((n - ((r.number - k.base).toNat):Nat):Int)) Z (fun r hr=>bN Z Z hr) (fun h395=>?_) (fun h395=>?_)
         ·refine za bT Z (cS (aE Z (cT (za (J 2) Z (cS (aB (inB.r (aR (aO (v:=(J 2)) (Ba Z Z) ?_)))))))))
          have hx:(Cb (As k r)).1 = 2:=by
            rw [hmk394]; unfold Cb
            rw [if_pos rfl,if_pos (by show 4000 < (List.length _); simp only [Aq,Au,Ar,Am,Ak,Ap,List.length_append,List.length_cons,List.length_nil,List.length_take,List.length_drop,List.length_map,Cr,Dp,Bj,Bk]; omega)]
          exact ⟨(⟨k.view,k.normal,r.number,r.image,(k.ents).drop ((r.number - k.base).toNat)⟩:Kept),_,_,_,Bi hx.symm,(H392.sel [1,2,3] (by decide) rfl),fun h0=>by rw [hx] at h0; cases h0⟩
         ·refine za bF Z (cS (aF Z (cT (zm (.pointer (some ⟨p,0,none⟩)) Z (zg Z (bX Z) (zg Z (Co (b:=⟨p,0,none⟩) Z Z) (zg Z (bW Z (Aj (cs:=[(J k.view),(J k.normal),(J r.number),(.string (tx r.image)),(.slice (dropA A c ((r.number - k.base).toNat) 11) (n - ((r.number - k.base).toNat)) (c - ((r.number - k.base).toNat)))]) Ct (H392.ob (i:=1) Z).cl)) (aU call57 (opCheck_ _ _ _ (⟨k.view,k.normal,r.number,r.image,(k.ents).drop ((r.number - k.base).toNat)⟩:Kept) (KeptR.of (k:=(⟨k.view,k.normal,r.number,r.image,(k.ents).drop ((r.number - k.base).toNat)⟩:Kept)) (n:=n - ((r.number - k.base).toNat)) (c:=c - ((r.number - k.base).toNat)) (H392.rowrd (i:=2) Z) (by show n - ((r.number - k.base).toNat) = ((k.ents).drop ((r.number - k.base).toNat)).length; (try simp only [List.length_append,List.length_cons,List.length_nil,List.length_take,List.length_drop]); all_goals omega) (by omega) (by omega) (by first | assumption | (show List.length _ ≤ _; first | assumption | decide | omega))) (Nat.le_refl _)) Z Z Z ?_))))))))
          rintro _ w396 ⟨rfl,g397⟩
          have H398:=H392.grow g397
          have z399:=g397.size
          refine zc (((if Cn (⟨k.view,k.normal,r.number,r.image,(k.ents).drop ((r.number - k.base).toNat)⟩:Kept) then 0 else 1):Int) ≠ (0:Int)) Z (fun r hr=>bQ Z Z hr) (fun h400=>?_) (fun h400=>?_)
          ·refine za bT Z (cS (aE Z (cT (za (J 141) Z (cS (aB (inB.r (aR (aO (v:=(J 141)) (Ba Z Z) ?_)))))))))
           have hx:(Cb (As k r)).1 = 141:=by
             rw [hmk394]; unfold Cb
             rw [if_pos rfl,if_neg (by show ¬ 4000 < (List.length _); simp only [Aq,Au,Ar,Am,Ak,Ap,List.length_append,List.length_cons,List.length_nil,List.length_take,List.length_drop,List.length_map,Cr,Dp,Bj,Bk]; omega),if_neg (by have:=ite_ne0 h400; intro h0; rw [h0] at this; cases this)]
           exact ⟨(⟨k.view,k.normal,r.number,r.image,(k.ents).drop ((r.number - k.base).toNat)⟩:Kept),_,_,_,Bi hx.symm,(H398.sel [1,2,3] (by decide) rfl),fun h0=>by rw [hx] at h0; cases h0⟩
          ·refine za bF Z (cS (aF Z (aA (inB.n (aQ (cT (za (J 0) Z (cS (aB (aO (v:=(J 0)) (Ba Z Z) ?_))))))))))
           have hx:Cb (As k r) = (0,(⟨k.view,k.normal,r.number,r.image,(k.ents).drop ((r.number - k.base).toNat)⟩:Kept)):=by
             rw [hmk394]; unfold Cb
             rw [if_pos rfl,if_neg (by show ¬ 4000 < (List.length _); simp only [Aq,Au,Ar,Am,Ak,Ap,List.length_append,List.length_cons,List.length_nil,List.length_take,List.length_drop,List.length_map,Cr,Dp,Bj,Bk]; omega),if_pos (by exact ite_eq0 h400)]
           exact ⟨(⟨k.view,k.normal,r.number,r.image,(k.ents).drop ((r.number - k.base).toNat)⟩:Kept),_,_,_,by rw [hx],(H398.sel [1,2,3] (by decide) Z),fun _=>by rw [hx]⟩
      ·refine za bF Z (cS (aF Z (cT (zg Z (bP (r:=false) Z Z (decide_eq_false (by omega))) (za bF Z (cS (aF Z (cT (za (J 141) Z (cS (aB (inB.r (aR (aO (v:=(J 141)) (Ba Z Z) ?_))))))))))))))
       have hx:(Cb (As k r)).1 = 141:=by
         unfold As Dm
         simp [Cb,h9,h36,h172,h223,h349]
       exact ⟨k,_,_,_,Bi hx.symm,(H221.sel [1,2,3] (by decide) rfl),fun h0=>by rw [hx] at h0; cases h0⟩
set_option maxHeartbeats 1000000 in
set_option maxRecDepth 20000 in
theorem Fold_ (w : World) (B : Nat) (k : Kept) (A : Option Addr) (n c : Nat) (hr : Rd w B 11 A (ents k.ents)) (hB : B ≤ w.heap.size) (hn : n = k.ents.length) (hm : n ≤ 1099511627776) (hc : n ≤ c) (hi : k.image.length ≤ 140737488351232) (r : Rec) (A2 : Option Addr) (n2 c2 : Nat) (hr2 : Rd w B 11 A2 (ents r.ents)) (hn2 : n2 = r.ents.length) (hm2 : n2 ≤ 1099511627776) (hc2 : n2 ≤ c2) (hi2 : r.image.length ≤ 140737488351232) : Ret prog 40 [(.agg ((kC k A n c)).toArray), (.agg ((rC r A2 n2 c2)).toArray)] w (fun v w' => ∃ (A' : Option Addr) (n' c' : Nat), v = .tuple #[.agg [.int .i64 (Ay k r).2.view, .int .i64 (Ay k r).2.normal, .int .i64 (Ay k r).2.base, .string (tx (Ay k r).2.image), .slice A' n' c'].toArray, .int .i64 (Ay k r).1] ∧ Sp ([Ai 31 11 A' n' c' (ents (Ay k r).2.ents)] ++ [Bd w Bl]) w') := by
  have H0:Sp [Bd w Bl] w:=Bv w
  refine aP func40 Z Z Z ?_
  refine cT (bH (cs:=(kC k A n c)) Z Z Z ?_)
  intro w1 b2 hb3 hz4 g5 o6
  have H7:=H0.newB g5 o6 (by omega)
  have z8:=g5.size
  refine bH (cs:=(rC r A2 n2 c2)) Z Z Z ?_
  intro w9 b10 hb11 hz12 g13 o14
  have H15:=H7.newB g13 o14 (by omega)
  have z16:=g13.size
  refine bG (cs:=[(J 0),(J 0),(J 0),(.string (⟨#[]⟩)),(.slice none 0 0)]) zeroValue24 Z Z Z ?_
  intro w17 b18 hb19 hz20 g21 o22
  have H23:=H15.newB g21 o22 (by omega)
  have z24:=g21.size
  refine za (J 0) Z (cS (aD (cT (zg Z (bW Z (Aj (cs:=(kC k A n c)) Ct (H23.ob (i:=2) Z).cl)) (aU call57 (opCheck_ _ _ _ k (KeptR.of (k:=k) (n:=n) (c:=c) (hr.st0 (H23.fix (i:=3) Z)) (by show n = (k.ents).length; (try simp only [List.length_append,List.length_cons,List.length_nil,List.length_take,List.length_drop]); all_goals omega) (by omega) (by omega) (by first | assumption | (show List.length _ ≤ _; first | assumption | decide | omega))) (by omega)) Z Z Z ?_)))))
  rintro _ w25 ⟨rfl,g26⟩
  have H27:=H23.grow g26
  have z28:=g26.size
  refine za (J (if Cn k then 0 else 1)) Z (cS (cT (zm (J (if Cn k then 0 else 1)) Z ?_)))
  refine zc (((if Cn k then 0 else 1):Int) ≠ (0:Int)) Z (fun r hr=>bQ Z Z hr) (fun h29=>?_) (fun h29=>?_)
  ·refine cS (aE Z (cT (zg Z (bY (cs:=[(J 0),(J 0),(J 0),(.string (⟨#[]⟩)),(.slice none 0 0)]) bd24 Z) (zm (J (if Cn k then 0 else 1)) Z (bE (vs:=[(J 0),(J 0),(J 0),(.string (⟨#[]⟩)),(.slice none 0 0)]) (cs':=[(J 0),(J 0),(J 0),(.string (⟨#[]⟩)),(.slice none 0 0)]) sizeOf24 (H27.ob (i:=0) Z) Z Z Z Z Z Z ?_)))))
   intro w30 hz31 g32 o33
   have H34:Sp [Aa b18 24 [(J 0),(J 0),(J 0),(.string (⟨#[]⟩)),(.slice none 0 0)],Aa b10 33 (rC r A2 n2 c2),Aa b2 24 (kC k A n c),Bd w Bl] w30:=H27.setB (i:=0) rfl g32 o33 rfl
   have z35:=g32.size
   refine za (J (if Cn k then 0 else 1)) Z (cS (aB (aR (aO (v:=(.tuple #[(.agg ([(J 0),(J 0),(J 0),(.string (⟨#[]⟩)),(.slice none 0 0)]).toArray),(J (if Cn k then 0 else 1))])) (Ch Z (cA Z (Aj (cs:=[(J 0),(J 0),(J 0),(.string (⟨#[]⟩)),(.slice none 0 0)]) Ct (H34.ob (i:=0) Z).cl)) (bZ Z)) ?_))))
   have H36:=H34.nil_ 31 11
   have hkk:Cn k = false:=by
     cases hkb:Cn k with
     | false=>rfl
     | true=>rw [hkb] at h29; exact absurd rfl h29
   have hx:Ay k r = (1,zKept):=by unfold Ay; rw [if_neg (by rw [hkk]; decide)]
   exact ⟨none,0,0,by rw [hx,hkk]; rfl,by rw [hx]; exact (H36.sel [0,4] (by decide) Z)⟩
  ·refine cS (aF Z (aA (aQ (cT ?_))))
   have hkk:Cn k = true:=by
      cases hkb:Cn k with
      | true=>rfl
      | false=>rw [hkb] at h29; exact absurd h29 (by decide)
   refine zg Z (Cv (b:=⟨b2,4,none⟩) Z Z) (zl (.slice A n c) lo22 (H27.ob (i:=2) Z) Z (aU call89 (cloneEnt _ k.ents _ _ _ _ (hr.st0 (H27.fix (i:=3) Z)) (by (try simp only [List.length_append,List.length_cons,List.length_nil,List.length_take,List.length_drop]); all_goals omega) (by omega)) Z Z Z ?_))
   rintro _ w40 ⟨A37,c38,rfl,g41,ow39⟩
   have H42:Sp [Ai 31 11 A37 n c38 (ents k.ents),Aa b18 24 [(J 0),(J 0),(J 0),(.string (⟨#[]⟩)),(.slice none 0 0)],Aa b10 33 (rC r A2 n2 c2),Aa b2 24 (kC k A n c),Bd w Bl] w40:=H27.newO g41 ow39 (by simp only [Aq,Au,Ar,Am,Ak,Ap,List.length_append,List.length_cons,List.length_nil,List.length_take,List.length_drop,List.length_map,Cr,Dp,Bj,Bk]; omega) (Nat.le_refl _)
   have z43:=g41.size
   refine zg Z (Cv (b:=⟨b2,4,none⟩) Z Z) (bE (vs:=[(.slice A37 n c38)]) (cs':=[(J k.view),(J k.normal),(J k.base),(.string (tx k.image)),(.slice A37 n c38)]) sizeOf22 (H42.ob (i:=3) Z) Z Z Z Z Z Z ?_)
   intro w44 hz45 g46 o47
   have H48:Sp [Ai 31 11 A37 n c38 (ents k.ents),Aa b18 24 [(J 0),(J 0),(J 0),(.string (⟨#[]⟩)),(.slice none 0 0)],Aa b10 33 (rC r A2 n2 c2),Aa b2 24 [(J k.view),(J k.normal),(J k.base),(.string (tx k.image)),(.slice A37 n c38)],Bd w Bl] w44:=H42.setB (i:=3) rfl g46 o47 rfl
   have z49:=g46.size
   refine cS (cT (zg Z (bW Z (Aj (cs:=[(J k.view),(J k.normal),(J k.base),(.string (tx k.image)),(.slice A37 n c38)]) Ct (H48.ob (i:=3) Z).cl)) (zg Z (bY (cs:=[(J k.view),(J k.normal),(J k.base),(.string (tx k.image)),(.slice A37 n c38)]) bd141 Z) (bH (cs:=[(J k.view),(J k.normal),(J k.base),(.string (tx k.image)),(.slice A37 n c38)]) Z Z Z ?_))))
   intro w50 b51 hb52 hz53 g54 o55
   have H56:=H48.newB g54 o55 (by omega)
   have z57:=g54.size
   refine za (.pointer (some ⟨b51,0,none⟩)) Z (cS (aD (cT (zm (.pointer (some ⟨b51,0,none⟩)) Z (zg Z (bW Z (Aj (cs:=(rC r A2 n2 c2)) wh33 (H56.ob (i:=3) Z).cl)) ?_)))))
   obtain ⟨S63,hS65,hO66,K67⟩:=H56.takeN 2
   refine aU call109 (fold_ _ S63 b51 k _ _ _ hS65 hkk (by first | assumption | omega) r A2 n2 c2 (Cw hO66 (j:=3) Z hr2 (by omega)) (by first | assumption | omega) (by first | assumption | omega) (by first | assumption | omega) (by first | assumption | omega)) Z Z Z ?_
   rintro _ w68 ⟨k58,A59,n60,c61,rfl,g69,hk62⟩
   have H70:Sp [Aa b51 141 [(J k58.view),(J k58.normal),(J k58.base),(.string (tx k58.image)),(.slice A59 n60 c61)],Ai 31 11 A59 n60 c61 (ents k58.ents),Aa b18 24 [(J 0),(J 0),(J 0),(.string (⟨#[]⟩)),(.slice none 0 0)],Aa b10 33 (rC r A2 n2 c2),Aa b2 24 [(J k.view),(J k.normal),(J k.base),(.string (tx k.image)),(.slice A37 n c38)],Bd w Bl] w68:=K67 _ _ g69
   have z71:=(H70.fix (i:=5) rfl).size
   refine za (J ((Cb (As k r)).1)) Z (cS (cT (zm (J ((Cb (As k r)).1)) Z ?_)))
   refine zc (((Cb (As k r)).1:Int) ≠ (0:Int)) Z (fun r hr=>bQ Z Z hr) (fun h72=>?_) (fun h72=>?_)
   ·refine cS (aE Z (cT (zg Z (bY (cs:=[(J 0),(J 0),(J 0),(.string (⟨#[]⟩)),(.slice none 0 0)]) bd24 Z) (zm (J ((Cb (As k r)).1)) Z (bE (vs:=[(J 0),(J 0),(J 0),(.string (⟨#[]⟩)),(.slice none 0 0)]) (cs':=[(J 0),(J 0),(J 0),(.string (⟨#[]⟩)),(.slice none 0 0)]) sizeOf24 (H70.ob (i:=2) Z) Z Z Z Z Z Z ?_)))))
    intro w73 hz74 g75 o76
    have H77:Sp [Aa b51 141 [(J k58.view),(J k58.normal),(J k58.base),(.string (tx k58.image)),(.slice A59 n60 c61)],Ai 31 11 A59 n60 c61 (ents k58.ents),Aa b18 24 [(J 0),(J 0),(J 0),(.string (⟨#[]⟩)),(.slice none 0 0)],Aa b10 33 (rC r A2 n2 c2),Aa b2 24 [(J k.view),(J k.normal),(J k.base),(.string (tx k.image)),(.slice A37 n c38)],Bd w Bl] w73:=H70.setB (i:=2) rfl g75 o76 rfl
    have z78:=g75.size
    refine za (J ((Cb (As k r)).1)) Z (cS (aB (aR (aO (v:=(.tuple #[(.agg ([(J 0),(J 0),(J 0),(.string (⟨#[]⟩)),(.slice none 0 0)]).toArray),(J ((Cb (As k r)).1))])) (Ch Z (cA Z (Aj (cs:=[(J 0),(J 0),(J 0),(.string (⟨#[]⟩)),(.slice none 0 0)]) Ct (H77.ob (i:=2) Z).cl)) (bZ Z)) ?_))))
    have H79:=H77.nil_ 31 11
    have hx:Ay k r = (Cb (As k r)):=by unfold Ay; rw [if_pos hkk]
    have hz:=seenK_err (x:=As k r) h72
    exact ⟨none,0,0,by rw [hx,hz]; rfl,by rw [hx,hz]; exact (H79.sel [0,6] (by decide) Z)⟩
   ·refine cS (aF Z (aA (aQ (cT (zm (.pointer (some ⟨b51,0,none⟩)) Z (zg Z (bX Z) (zg Z (Co (b:=⟨b51,0,none⟩) Z Z) (zg Z (bW Z (Aj (cs:=[(J k58.view),(J k58.normal),(J k58.base),(.string (tx k58.image)),(.slice A59 n60 c61)]) Ct (H70.ob (i:=0) Z).cl)) (bE (vs:=[(J k58.view),(J k58.normal),(J k58.base),(.string (tx k58.image)),(.slice A59 n60 c61)]) (cs':=[(J k58.view),(J k58.normal),(J k58.base),(.string (tx k58.image)),(.slice A59 n60 c61)]) sizeOf24 (H70.ob (i:=2) Z) Z Z Z Z Z Z ?_)))))))))
    intro w80 hz81 g82 o83
    have H84:Sp [Aa b51 141 [(J k58.view),(J k58.normal),(J k58.base),(.string (tx k58.image)),(.slice A59 n60 c61)],Ai 31 11 A59 n60 c61 (ents k58.ents),Aa b18 24 [(J k58.view),(J k58.normal),(J k58.base),(.string (tx k58.image)),(.slice A59 n60 c61)],Aa b10 33 (rC r A2 n2 c2),Aa b2 24 [(J k.view),(J k.normal),(J k.base),(.string (tx k.image)),(.slice A37 n c38)],Bd w Bl] w80:=H70.setB (i:=2) rfl g82 o83 rfl
    have z85:=g82.size
    refine za (J 0) Z (cS (aB (aO (v:=(.tuple #[(.agg ([(J k58.view),(J k58.normal),(J k58.base),(.string (tx k58.image)),(.slice A59 n60 c61)]).toArray),(J 0)])) (Ch Z (cA Z (Aj (cs:=[(J k58.view),(J k58.normal),(J k58.base),(.string (tx k58.image)),(.slice A59 n60 c61)]) Ct (H84.ob (i:=2) Z).cl)) (bZ Z)) ?_)))
    have hx:Ay k r = (Cb (As k r)):=by unfold Ay; rw [if_pos hkk]
    have h0:(Cb (As k r)).1 = 0:=by omega
    have hk3:=hk62 h0
    exact ⟨_,_,_,by rw [hx,← hk3,h0],by rw [hx,← hk3]; exact (H84.sel [1,5] (by decide) Z)⟩
end Go.Proofs.YtfokljnhllflbaaGreat
namespace Go.Proofs.YtfokljnhllflbaaGreat
open Go Go.Eng Go.RowKit Go.Proofs.Tryz
set_option maxHeartbeats 1000000 in
set_option maxRecDepth 20000 in
theorem outN2 (w:World) (S:Nat → Prop) (p n0 c:Nat) (A:Option Addr) (l:List UInt8) (hS:(AllA [Aa p 166 [.slice A n0 c],Ai 5 1 A n0 c (Df l)]).ok S w) (xs:List Int) (A2:Option Addr) (m c2:Nat) (hr:RdN w S 1 A2 (ics xs)) (hm:m = xs.length) (hx : ∀ x ∈ xs,0 ≤ x∧x ≤ 2147483647) (hlen:l.length + 4 * xs.length ≤ 1099511627000):Ret prog 145 [(.pointer (some ⟨p,0,none⟩)),(.slice A2 m c2)] w (fun v w' => ∃ (A':Option Addr) (n' c':Nat),v = .tuple #[]∧Sp ([Aa p 166 [.slice A' n' c'],Ai 5 1 A' n' c' (Df (l ++ Ci xs))] ++ [Bd w S]) w'∧n' = (l ++ Ci xs).length):=by
  have H0:=Sp.startL hS
  have hnl:=H0.len (i:=1) rfl
  simp only [Aq] at hnl
  have H0:Sp [Aa p 166 [.slice A n0 c],Ai 5 1 A n0 c (Df l),Bd w S] w:=H0
  refine aP func145 Z Z Z ?_
  refine cT (zm (.slice A2 m c2) Z (zg Z (bR underlying134 Z) (zm (J 0) Z (cS (aG ?_)))))
  refine aK (fun t=>Nat.beq t 5 || (Nat.ble 8 t && Nat.ble t 24)) (fun nL ρ wl => ∃ (k n1 c1:Nat) (A1:Option Addr),ρ 8 = (J (k:Int))∧nL = xs.length - k∧Sp [Aa p 166 [.slice A1 n1 c1],Ai 5 1 A1 n1 c1 (Df (l ++ Ci (xs.take k))),Bd w S] wl∧k ≤ xs.length∧n1 = l.length + 4 * k) (xs.length) ?aa0 ?bb0
  case aa0 =>
   have H0:Sp [Aa p 166 [.slice A n0 c],Ai 5 1 A n0 c (Df (l ++ Ci (xs.take 0))),Bd w S] w:=(by simpa [Ci] using H0)
   exact ⟨0,n0,c,A,rfl,rfl,H0,Nat.zero_le _,by omega⟩
  case bb0 =>
   rintro n2 ρ0 w1 ho3 ⟨k,n1,c1,A1,hs0_8,hn0,H4,hk,hn1⟩
   obtain ⟨j0,rfl⟩:=ho3.shape1 hs0_8
   clear ho3 hs0_8
   subst hn0
   have z5:=(H4.chg (i:=2) rfl).size
   have hel:(l ++ Ci (xs.take k)).length = l.length + 4 * k:=by rw [List.length_append,Bj,List.length_take]; omega
   refine cT ?_
   refine zc (((k:Int):Int) < ((m:Nat):Int)) Z (fun r hr=>bL Z Z hr) (fun h6=>?_) (fun h6=>?_)
   ·refine cS (aD (aE Z (aA (aQ (aD (aG (cT ?_)))))))
    obtain ⟨e7,he8⟩ : ∃ e,(xs)[k]? = some e:=⟨_,List.getElem?_eq_getElem (by omega)⟩
    obtain ⟨ad9,hA10⟩:=Rd.sm ((hr.st (H4.chg (i:=2) rfl)).rd) (ics_get he8)
    have hl11:=Eng.lt_len (ics_get he8)
    refine zg Z (bS (b:=(ad9.add (k * 1))) (i:=k) underlying134 sizeOf3 (by rw [← hA10]; rfl) Z (by omega) (by omega) Z) (zg Z (bW Z (Ax Bw (Cl.at_ (v:=(J e7)) (Rd.cl ((hr.st (H4.chg (i:=2) Z)).rd) hA10 (ics_get he8)) (i:=0) Z))) (za (J e7) Z (cS (aL (zm (.pointer (some ⟨p,0,none⟩)) Z (zm (.pointer (some ⟨p,0,none⟩)) Z (zg Z (bX Z) (zg Z (fa166_0 (b:=⟨p,0,none⟩) Z Z) (zl (.slice A1 n1 c1) lo97 (H4.ob (i:=0) Z) Z (zm (J e7) Z ?_))))))))))
    refine aU call215 (putNumberI _ _ n1 c1 _ (l ++ Ci (xs.take k)) (H4.rowrd (i:=1) Z) (by first | assumption | omega) (by omega) e7 (by have:=hx e7 (List.mem_of_getElem? he8); omega)) Z Z Z ?_
    rintro _ w17 ⟨A12,m13,c14,rfl,g18,hm15,ow16⟩
    have H19:Sp [Ai 5 1 A12 m13 c14 (Df ((l ++ Ci (xs.take k)) ++ Cr e7.toNat)),Aa p 166 [.slice A1 n1 c1],Ai 5 1 A1 n1 c1 (Df (l ++ Ci (xs.take k))),Bd w S] w17:=H4.newO g18 ow16 (by simp only [Aq,Au,Ar,Am,Ak,Ap,List.length_append,List.length_cons,List.length_nil,List.length_take,List.length_drop,List.length_map,Cr,Dp,Bj,Bk]; omega) (Nat.le_refl _)
    have z20:=g18.size
    refine zm (.tuple #[(.slice A12 m13 c14),(J 0)]) Z (zx (.slice A12 m13 c14) Z (zx (J 0) Z (zg Z (bX Z) (zg Z (fa166_0 (b:=⟨p,0,none⟩) Z Z) (bE (vs:=[(.slice A12 m13 c14)]) (cs':=[(.slice A12 m13 c14)]) sizeOf97 (H19.ob (i:=1) Z) Z Z Z Z Z Z ?_)))))
    intro w21 hz22 g23 o24
    have H25:Sp [Ai 5 1 A12 m13 c14 (Df ((l ++ Ci (xs.take k)) ++ Cr e7.toNat)),Aa p 166 [(.slice A12 m13 c14)],Ai 5 1 A1 n1 c1 (Df (l ++ Ci (xs.take k))),Bd w S] w21:=H19.setB (i:=1) rfl g23 o24 rfl
    have z26:=g23.size
    refine aM (inB.n (aQ (aL (zg Z (bI (r:=(k:Int) + 1) Z Z (Dl (by omega) (by omega))) (zm (J ((k:Int) + 1)) Z (cS ?_))))))
    have H27:Sp [Ai 5 1 A12 m13 c14 (Df (l ++ Ci (xs.take (k + 1)))),Aa p 166 [(.slice A12 m13 c14)],Ai 5 1 A1 n1 c1 (Df (l ++ Ci (xs.take k))),Bd w S] w21:=H25.eqR (i:=0) rfl rfl (by rw [take_snoc he8,encN_snoc,← List.append_assoc]) rfl
    refine ⟨(by repeat (first | exact aJ _ _ | exact aH _ _ | refine aI ?_ Z _)),_,?_,k + 1,m13,c14,A12,rfl,rfl,(H27.sel [1,0,3] (by decide) Z),by omega,by omega⟩
    omega
   ·refine cS (aD (aF Z (aC (aS (aS (Bo (finQ.n (v:=(.tuple #[])) (res0 Z) ?_)))))))
    have hkk:xs.take k = xs:=List.take_of_length_le (by omega)
    rw [hkk] at hel H4
    exact ⟨_,_,_,rfl,(H4.sel [0,1,2] (by decide) Z),by omega⟩
set_option maxHeartbeats 1000000 in
set_option maxRecDepth 20000 in
theorem outI2 (w:World) (S:Nat → Prop) (p n0 c:Nat) (A:Option Addr) (l:List UInt8) (hS:(AllA [Aa p 166 [.slice A n0 c],Ai 5 1 A n0 c (Df l)]).ok S w) (xs:List Int) (A2:Option Addr) (m c2:Nat) (hr:RdN w S 1 A2 (ics xs)) (hm:m = xs.length) (hlen:l.length + 8 * xs.length ≤ 1099511627000):Ret prog 146 [(.pointer (some ⟨p,0,none⟩)),(.slice A2 m c2)] w (fun v w' => ∃ (A':Option Addr) (n' c':Nat),v = .tuple #[]∧Sp ([Aa p 166 [.slice A' n' c'],Ai 5 1 A' n' c' (Df (l ++ encW xs))] ++ [Bd w S]) w'∧n' = (l ++ encW xs).length):=by
  have H0:=Sp.startL hS
  have hnl:=H0.len (i:=1) rfl
  simp only [Aq] at hnl
  have H0:Sp [Aa p 166 [.slice A n0 c],Ai 5 1 A n0 c (Df l),Bd w S] w:=H0
  refine aP func146 Z Z Z ?_
  refine cT (zm (.slice A2 m c2) Z (zg Z (bR underlying134 Z) (zm (J 0) Z (cS (aG ?_)))))
  refine aK (fun t=>Nat.beq t 5 || (Nat.ble 8 t && Nat.ble t 21)) (fun nL ρ wl => ∃ (k n1 c1:Nat) (A1:Option Addr),ρ 8 = (J (k:Int))∧nL = xs.length - k∧Sp [Aa p 166 [.slice A1 n1 c1],Ai 5 1 A1 n1 c1 (Df (l ++ encW (xs.take k))),Bd w S] wl∧k ≤ xs.length∧n1 = l.length + 8 * k) (xs.length) ?aa0 ?bb0
  case aa0 =>
   have H0:Sp [Aa p 166 [.slice A n0 c],Ai 5 1 A n0 c (Df (l ++ encW (xs.take 0))),Bd w S] w:=(by simpa [encW] using H0)
   exact ⟨0,n0,c,A,rfl,rfl,H0,Nat.zero_le _,by omega⟩
  case bb0 =>
   rintro n2 ρ0 w1 ho3 ⟨k,n1,c1,A1,hs0_8,hn0,H4,hk,hn1⟩
   obtain ⟨j0,rfl⟩:=ho3.shape1 hs0_8
   clear ho3 hs0_8
   subst hn0
   have z5:=(H4.chg (i:=2) rfl).size
   have hel:(l ++ encW (xs.take k)).length = l.length + 8 * k:=by rw [List.length_append,Bk,List.length_take]; omega
   refine cT ?_
   refine zc (((k:Int):Int) < ((m:Nat):Int)) Z (fun r hr=>bL Z Z hr) (fun h6=>?_) (fun h6=>?_)
   ·refine cS (aD (aE Z (aA (aQ (aD (aG (cT ?_)))))))
    obtain ⟨e7,he8⟩ : ∃ e,(xs)[k]? = some e:=⟨_,List.getElem?_eq_getElem (by omega)⟩
    obtain ⟨ad9,hA10⟩:=Rd.sm ((hr.st (H4.chg (i:=2) rfl)).rd) (ics_get he8)
    have hl11:=Eng.lt_len (ics_get he8)
    refine zg Z (bS (b:=(ad9.add (k * 1))) (i:=k) underlying134 sizeOf3 (by rw [← hA10]; rfl) Z (by omega) (by omega) Z) (zg Z (bW Z (Ax Bw (Cl.at_ (v:=(J e7)) (Rd.cl ((hr.st (H4.chg (i:=2) Z)).rd) hA10 (ics_get he8)) (i:=0) Z))) (za (J e7) Z (cS (aL (zm (.pointer (some ⟨p,0,none⟩)) Z (zm (.pointer (some ⟨p,0,none⟩)) Z (zg Z (bX Z) (zg Z (fa166_0 (b:=⟨p,0,none⟩) Z Z) (zl (.slice A1 n1 c1) lo97 (H4.ob (i:=0) Z) Z (zm (J e7) Z (aU call216 (putInt_ _ _ n1 c1 _ (l ++ encW (xs.take k)) (H4.rowrd (i:=1) Z) (by first | assumption | omega) (by omega) e7) Z Z Z ?_)))))))))))
    rintro _ w17 ⟨A12,m13,c14,rfl,g18,hm15,ow16⟩
    have H19:Sp [Ai 5 1 A12 m13 c14 (Df (((l ++ encW (xs.take k)) ++ Dp (u64of e7)))),Aa p 166 [.slice A1 n1 c1],Ai 5 1 A1 n1 c1 (Df (l ++ encW (xs.take k))),Bd w S] w17:=H4.newO g18 ow16 (by simp only [Aq,Au,Ar,Am,Ak,Ap,List.length_append,List.length_cons,List.length_nil,List.length_take,List.length_drop,List.length_map,Cr,Dp,Bj,Bk]; omega) (Nat.le_refl _)
    have z20:=g18.size
    refine zg Z (bX Z) (zg Z (fa166_0 (b:=⟨p,0,none⟩) Z Z) (bE (vs:=[(.slice A12 m13 c14)]) (cs':=[(.slice A12 m13 c14)]) sizeOf97 (H19.ob (i:=1) Z) Z Z Z Z Z Z ?_))
    intro w21 hz22 g23 o24
    have H25:Sp [Ai 5 1 A12 m13 c14 (Df (((l ++ encW (xs.take k)) ++ Dp (u64of e7)))),Aa p 166 [(.slice A12 m13 c14)],Ai 5 1 A1 n1 c1 (Df (l ++ encW (xs.take k))),Bd w S] w21:=H19.setB (i:=1) rfl g23 o24 rfl
    have z26:=g23.size
    refine aM (inB.n (aQ (aL (zg Z (bI (r:=(k:Int) + 1) Z Z (Dl (by omega) (by omega))) (zm (J ((k:Int) + 1)) Z (cS ?_))))))
    have H27:Sp [Ai 5 1 A12 m13 c14 (Df (l ++ encW (xs.take (k + 1)))),Aa p 166 [(.slice A12 m13 c14)],Ai 5 1 A1 n1 c1 (Df (l ++ encW (xs.take k))),Bd w S] w21:=H25.eqR (i:=0) rfl rfl (by rw [take_snoc he8,encW_snoc,← List.append_assoc]) rfl
    refine ⟨(by repeat (first | exact aJ _ _ | exact aH _ _ | refine aI ?_ Z _)),_,?_,k + 1,m13,c14,A12,rfl,rfl,(H27.sel [1,0,3] (by decide) Z),by omega,by omega⟩
    omega
   ·refine cS (aD (aF Z (aC (aS (aS (Bo (finQ.n (v:=(.tuple #[])) (res0 Z) ?_)))))))
    have hkk:xs.take k = xs:=List.take_of_length_le (by omega)
    rw [hkk] at hel H4
    exact ⟨_,_,_,rfl,(H4.sel [0,1,2] (by decide) Z),by omega⟩
set_option maxHeartbeats 1000000 in
set_option maxRecDepth 20000 in
theorem putHeap_ (w : World) (B : Nat) (rh : RHeap) (ros : List RObj) (h : Heap) (H : HeapR w B rh ros h) (hB : B ≤ w.heap.size) : Ret prog 77 [(.agg (rh.cells).toArray)] w (fun v w' => ∃ (A' : Option Addr) (n' c' : Nat), v = .tuple #[.slice A' n' c', .int .i64 (putHeapX h).2] ∧ Sp ([Ai 5 1 A' n' c' (Df (putHeapX h).1)] ++ [Bd w Bl]) w') := by
  have hord:=H.order
  have hnx:=H.next
  have hfn:=H.fn
  have hfm:=H.fm
  have hon:=H.objs.n
  have hom:=H.objs.m
  have hol:=H.objs.len
  have H0:Sp [Bd w Bl] w:=Bv w
  refine aP func77 Z Z Z ?_
  refine cT (bH (cs:=rh.cells) Z Z Z ?_)
  intro w1 b2 hb3 hz4 g5 o6
  have H7:=H0.newB g5 o6 (by omega)
  have z8:=g5.size
  refine za (.slice none 0 0) Z (za (J 0) Z (cS (aD (cT (zg Z (bW Z (Aj (cs:=rh.cells) wh47 (H7.ob (i:=0) Z).cl)) (aU call140 (heapCheck_ _ _ rh _ _ (H.st0 (H7.fix (i:=1) Z)) (by omega)) Z Z Z ?_))))))
  rintro _ w9 ⟨rfl,g10⟩
  have H11:=H7.grow g10
  have z12:=g10.size
  refine zc (((if Dc h then 0 else 1):Int) ≠ (0:Int)) Z (fun r hr=>bQ Z Z hr) (fun h13=>?_) (fun h13=>?_)
  ·refine cS (aE Z (cT (za (.slice none 0 0) Z (za (J 60) Z (cS (aB (aR (aO (v:=(.tuple #[(.slice none 0 0),(J 60)])) (res2 Z Z Z) ?_))))))))
   have H14:=H11.nil_ 5 1
   have hbb:Dc h = false:=by
     cases hkb:Dc h with
     | false=>rfl
     | true=>rw [hkb] at h13; exact absurd rfl h13
   exact ⟨none,0,0,by unfold putHeapX; rw [hbb]; rfl,by unfold putHeapX; rw [hbb]; exact (H14.sel [0,2] (by decide) Z)⟩
  ·refine cS (aF Z (aA (aQ (cT ?_))))
   have hbb:Dc h = true:=by
      cases hkb:Dc h with
      | true=>rfl
      | false=>rw [hkb] at h13; exact absurd h13 (by decide)
   have hrg:=heapB_rng hbb
   obtain ⟨hr1,hr2,hr3,hr4,hr5⟩:=hrg
   have htp:=H.tops
   rw [← htp] at hr4
   have hq1:(Ci [rh.order,rh.next]).length = 8:=rfl
   refine zg Z (bY (cs:=[(.slice none 0 0)]) bd166 Z) (bH (cs:=[(.slice none 0 0)]) Z Z Z ?_)
   intro w15 b16 hb17 hz18 g19 o20
   have H21:=H11.newB g19 o20 (by omega)
   have z22:=g19.size
   refine za (.pointer (some ⟨b16,0,none⟩)) Z (cS (cT (zm (.pointer (some ⟨b16,0,none⟩)) Z (zg Z (fa47_0 (b:=⟨b2,0,none⟩) Z Z) (zl (J rh.order) Bw (H21.ob (i:=1) Z) Z (zg Z (fa47_2 (b:=⟨b2,2,none⟩) Z Z) (zl (J rh.next) Bw (H21.ob (i:=1) Z) Z (cF (cs:=[(J rh.order),(J rh.next)]) underlying134 sizeOf3 ze134 Z Z Z (by decide) Z Z Z ?_))))))))
   intro w23 b24 hb25 hz26 g27 o28
   have H29:=H21.newB g27 o28 (by omega)
   have z30:=g27.size
   have H31:=H29.nil_ 5 1
   obtain ⟨S36,hS37,hO38,K39⟩:=Sp.takeL (l1:=[Aa b16 166 [(.slice none 0 0)],Ai 5 1 none 0 0 (Df ([]))]) (l2:=[Aa b24 3 [(J rh.order),(J rh.next)],Aa b2 47 rh.cells,Bd w Bl]) (w:=w23) (H31.sel [2,0,1,3,4] (by decide) rfl)
   refine aU call145 (outN2 _ S36 b16 0 0 none ([]) hS37 ([rh.order,rh.next]) _ 2 2 (RdN.of_blk hO38 (j:=0) Z (Ob.rdI (l:=[rh.order,rh.next]) (H31.ob (i:=1) Z) Z)) (by first | rfl | assumption | omega) (by intro x hx; simp only [List.mem_cons,List.not_mem_nil,or_false] at hx; omega) (by simp only [Aq,Au,Ar,Am,Ak,Ap,List.length_append,List.length_cons,List.length_nil,List.length_take,List.length_drop,List.length_map,Cr,Dp,Bj,Bk] at *; omega)) Z Z Z ?_
   rintro _ w40 ⟨A32,n33,c34,rfl,g41,hn35⟩
   have H42:Sp [Aa b16 166 [.slice A32 n33 c34],Ai 5 1 A32 n33 c34 (Df ([] ++ Ci ([rh.order,rh.next]))),Aa b24 3 [(J rh.order),(J rh.next)],Aa b2 47 rh.cells,Bd w Bl] w40:=K39 _ _ g41
   have z43:=(H42.fix (i:=4) rfl).size
   refine cS (cT (zm (.pointer (some ⟨b16,0,none⟩)) Z (zg Z (fa47_3 (b:=⟨b2,3,none⟩) Z Z) (zg Z (Ex.slA underlying44 sizeOf3 Z Z) ?_))))
   obtain ⟨S48,hS49,hO50,K51⟩:=H42.takeN 2
   refine aU call145 (outN2 _ S48 b16 n33 c34 A32 ([] ++ Ci ([rh.order,rh.next])) hS49 ([rh.t0,rh.t1,rh.t2,rh.t3]) _ 4 4 (RdN.of_blk hO50 (j:=1) Z (Ob.rdI (l:=[rh.t0,rh.t1,rh.t2,rh.t3]) (H42.ob (i:=3) Z) Z)) (by first | rfl | assumption | omega) (hr4) (by simp only [Aq,Au,Ar,Am,Ak,Ap,List.length_append,List.length_cons,List.length_nil,List.length_take,List.length_drop,List.length_map,Cr,Dp,Bj,Bk] at *; omega)) Z Z Z ?_
   rintro _ w52 ⟨A44,n45,c46,rfl,g53,hn47⟩
   have H54:Sp [Aa b16 166 [.slice A44 n45 c46],Ai 5 1 A44 n45 c46 (Df ((([] ++ Ci ([rh.order,rh.next])) ++ Ci ([rh.t0,rh.t1,rh.t2,rh.t3])))),Aa b24 3 [(J rh.order),(J rh.next)],Aa b2 47 rh.cells,Bd w Bl] w52:=K51 _ _ g53
   have z55:=(H54.fix (i:=4) rfl).size
   refine cS (cT (zm (.pointer (some ⟨b16,0,none⟩)) Z (zg Z (fa47_1 (b:=⟨b2,1,none⟩) Z Z) (zl (.slice rh.objs.a rh.objs.n rh.objs.c) lo43 (H54.ob (i:=3) Z) Z (zg Z (bR underlying43 Z) (cF (cs:=[(J (rh.objs.n:Nat))]) underlying134 sizeOf3 ze134 Z Z Z (by decide) Z Z Z ?_))))))
   intro w56 b57 hb58 hz59 g60 o61
   have H62:=H54.newB g60 o61 (by omega)
   have z63:=g60.size
   obtain ⟨S69,hS70,hO71,K72⟩:=Sp.takeL (l1:=[Aa b16 166 [.slice A44 n45 c46],Ai 5 1 A44 n45 c46 (Df ((([] ++ Ci ([rh.order,rh.next])) ++ Ci ([rh.t0,rh.t1,rh.t2,rh.t3]))))]) (l2:=[Aa b57 3 [(J (rh.objs.n:Nat))],Aa b24 3 [(J rh.order),(J rh.next)],Aa b2 47 rh.cells,Bd w Bl]) (w:=w56) (H62.sel [1,2,0,3,4,5] (by decide) rfl)
   refine aU call145 (outN2 _ S69 b16 n45 c46 A44 ((([] ++ Ci ([rh.order,rh.next])) ++ Ci ([rh.t0,rh.t1,rh.t2,rh.t3]))) hS70 ([(rh.objs.n:Nat)]) _ 1 1 (RdN.of_blk hO71 (j:=0) Z (Ob.rdI (l:=[(rh.objs.n:Nat)]) (H62.ob (i:=0) Z) Z)) (by first | rfl | assumption | omega) (by intro x hx; simp only [List.mem_cons,List.not_mem_nil,or_false] at hx; omega) (by simp only [Aq,Au,Ar,Am,Ak,Ap,List.length_append,List.length_cons,List.length_nil,List.length_take,List.length_drop,List.length_map,Cr,Dp,Bj,Bk] at *; omega)) Z Z Z ?_
   rintro _ w73 ⟨A65,n66,c67,rfl,g74,hn68⟩
   have H75:Sp [Aa b16 166 [.slice A65 n66 c67],Ai 5 1 A65 n66 c67 (Df (((([] ++ Ci ([rh.order,rh.next])) ++ Ci ([rh.t0,rh.t1,rh.t2,rh.t3])) ++ Ci ([(rh.objs.n:Nat)])))),Aa b57 3 [(J (rh.objs.n:Nat))],Aa b24 3 [(J rh.order),(J rh.next)],Aa b2 47 rh.cells,Bd w Bl] w73:=K72 _ _ g74
   have z76:=(H75.fix (i:=5) rfl).size
   refine cS (aD (cT (zg Z (fa47_1 (b:=⟨b2,1,none⟩) Z Z) (zl (.slice rh.objs.a rh.objs.n rh.objs.c) lo43 (H75.ob (i:=4) Z) Z (zg Z (bR underlying43 Z) (zm (J 0) Z (cS (aG ?_))))))))
   have hz0:((([] ++ Ci ([rh.order,rh.next])) ++ Ci ([rh.t0,rh.t1,rh.t2,rh.t3])) ++ Ci ([(rh.objs.n:Nat)])) = (((Ci [rh.order,rh.next] ++ Ci [rh.t0,rh.t1,rh.t2,rh.t3]) ++ Ci [((rh.objs.n:Nat):Int)]) ++ putObjs (h.objs.take 0)):=by simp [putObjs]
   refine aK (fun t=>Nat.beq t 6 || (Nat.ble 32 t && Nat.ble t 58)) (fun nL ρ wl => ∃ (k n1 c1:Nat) (A1:Option Addr),ρ 32 = (J (k:Int))∧nL = rh.objs.n - k∧Sp [Aa b16 166 [.slice A1 n1 c1],Ai 5 1 A1 n1 c1 (Df ((((Ci [rh.order,rh.next] ++ Ci [rh.t0,rh.t1,rh.t2,rh.t3]) ++ Ci [((rh.objs.n:Nat):Int)]) ++ putObjs (h.objs.take k)))),Aa b2 47 rh.cells,Bd w Bl] wl∧k ≤ rh.objs.n∧n1 ≤ 28 + 336 * k) (rh.objs.n) ?aa0 ?bb0
   case aa0 =>
    have H77:Sp [Aa b16 166 [.slice A65 n66 c67],Ai 5 1 A65 n66 c67 (Df ((((Ci [rh.order,rh.next] ++ Ci [rh.t0,rh.t1,rh.t2,rh.t3]) ++ Ci [((rh.objs.n:Nat):Int)]) ++ putObjs (h.objs.take 0)))),Aa b57 3 [(J (rh.objs.n:Nat))],Aa b24 3 [(J rh.order),(J rh.next)],Aa b2 47 rh.cells,Bd w Bl] w73:=H75.eqR (i:=1) rfl rfl (congrArg Df hz0) rfl
    exact ⟨0,n66,c67,A65,rfl,rfl,(H77.sel [0,1,4,5] (by decide) Z),Nat.zero_le _,by simp only [Aq,Au,Ar,Am,Ak,Ap,List.length_append,List.length_cons,List.length_nil,List.length_take,List.length_drop,List.length_map,Cr,Dp,Bj,Bk] at *; omega⟩
   case bb0 =>
    rintro n79 ρ0 w78 ho80 ⟨k,n1,c1,A1,hs0_32,hn0,H81,hk,hn1⟩
    obtain ⟨j0,rfl⟩:=ho80.shape1 hs0_32
    clear ho80 hs0_32
    subst hn0
    have z82:=(H81.fix (i:=3) rfl).size
    have hlen:=(H81.len (i:=1) rfl)
    rw [Aq] at hlen
    refine cT ?_
    refine zc (((k:Int):Int) < ((rh.objs.n:Nat):Int)) Z (fun r hr=>bL Z Z hr) (fun h83=>?_) (fun h83=>?_)
    ·refine cS (aD (aE Z (aA (aQ (aD (aG (cT ?_)))))))
     obtain ⟨e84,he85⟩ : ∃ e,ros[k]? = some e:=⟨_,List.getElem?_eq_getElem (by omega)⟩
     obtain ⟨o86,ho87⟩ : ∃ e,h.objs[k]? = some e:=⟨_,List.getElem?_eq_getElem (by omega)⟩
     have oR88:=H.objs.all k e84 o86 he85 ho87
     have e89:=oR88.wl
     have e90:=oR88.ll
     have e91:=oR88.b
     have e92:=oR88.wm
     have e93:=oR88.lm
     have e94:=oR88.h
     obtain ⟨ad95,hA96⟩:=Rd.sm (H.objs.rd.st0 (H81.fix (i:=3) rfl)) (Cj he85)
     have hl97:=Eng.lt_len (Cj he85)
     refine zg Z (bS (b:=(ad95.add (k * 5))) (i:=k) underlying43 sizeOf136 (by rw [← hA96]; rfl) Z (by omega) (by omega) Z) (zg Z (bW Z (Aj (cs:=e84.cells) wh136 (Rd.cl (H.objs.rd.st0 (H81.fix (i:=3) Z)) hA96 (Cj he85)))) (bG (cs:=[(J 0),(J 0),(J 0),(.slice none 0 0),(.slice none 0 0)]) zeroValue136 Z Z Z ?_))
     intro w98 b99 hb100 hz101 g102 o103
     have H104:=H81.newB g102 o103 (by omega)
     have z105:=g102.size
     refine bE (vs:=e84.cells) (cs':=e84.cells) sizeOf136 (H104.ob (i:=0) Z) Z Z Z Z Z Z ?_
     intro w106 hz107 g108 o109
     have H110:Sp [Aa b99 136 e84.cells,Aa b16 166 [.slice A1 n1 c1],Ai 5 1 A1 n1 c1 (Df ((((Ci [rh.order,rh.next] ++ Ci [rh.t0,rh.t1,rh.t2,rh.t3]) ++ Ci [((rh.objs.n:Nat):Int)]) ++ putObjs (h.objs.take k)))),Aa b2 47 rh.cells,Bd w Bl] w106:=H104.setB (i:=0) rfl g108 o109 rfl
     have z111:=g108.size
     refine cS (cT ?_)
     have hob:=hr5 o86 (List.mem_of_getElem? ho87)
     obtain ⟨ho1,ho2,ho3,ho4,ho5⟩:=hob
     rw [← oR88.h] at ho1
     rw [← oR88.b] at ho2
     refine zm (.pointer (some ⟨b16,0,none⟩)) Z (zg Z (fa136_0 (b:=⟨b99,0,none⟩) Z Z) (zl (J e84.handle) Bw (H110.ob (i:=0) Z) Z (zg Z (fa136_1 (b:=⟨b99,1,none⟩) Z Z) (zg Z (Cs (b:=⟨b99,1,none⟩) Z Z) (zl (J e84.blk.at_) Bw (H110.ob (i:=0) Z) Z (zg Z (fa136_2 (b:=⟨b99,3,none⟩) Z Z) (zl (.slice e84.words.a e84.words.n e84.words.c) lo134 (H110.ob (i:=0) Z) Z (zg Z (bR underlying134 Z) (zg Z (fa136_3 (b:=⟨b99,4,none⟩) Z Z) (zl (.slice e84.links.a e84.links.n e84.links.c) lo134 (H110.ob (i:=0) Z) Z ?_))))))))))
     refine zg Z (bR underlying134 Z) (cF (cs:=[(J e84.handle),(J e84.blk.at_),(J (e84.words.n:Nat)),(J (e84.links.n:Nat))]) underlying134 sizeOf3 ze134 Z Z Z (by decide) Z Z Z ?_)
     intro w112 b113 hb114 hz115 g116 o117
     have H118:=H110.newB g116 o117 (by omega)
     have z119:=g116.size
     obtain ⟨S124,hS125,hO126,K127⟩:=Sp.takeL (l1:=[Aa b16 166 [.slice A1 n1 c1],Ai 5 1 A1 n1 c1 (Df ((((Ci [rh.order,rh.next] ++ Ci [rh.t0,rh.t1,rh.t2,rh.t3]) ++ Ci [((rh.objs.n:Nat):Int)]) ++ putObjs (h.objs.take k))))]) (l2:=[Aa b113 3 [(J e84.handle),(J e84.blk.at_),(J (e84.words.n:Nat)),(J (e84.links.n:Nat))],Aa b99 136 e84.cells,Aa b2 47 rh.cells,Bd w Bl]) (w:=w112) (H118.sel [2,3,0,1,4,5] (by decide) rfl)
     refine aU call145 (outN2 _ S124 b16 n1 c1 A1 ((((Ci [rh.order,rh.next] ++ Ci [rh.t0,rh.t1,rh.t2,rh.t3]) ++ Ci [((rh.objs.n:Nat):Int)]) ++ putObjs (h.objs.take k))) hS125 ([e84.handle,e84.blk.at_,(e84.words.n:Nat),(e84.links.n:Nat)]) _ 4 4 (RdN.of_blk hO126 (j:=0) Z (Ob.rdI (l:=[e84.handle,e84.blk.at_,(e84.words.n:Nat),(e84.links.n:Nat)]) (H118.ob (i:=0) Z) Z)) (by first | rfl | assumption | omega) (by intro x hx; simp only [List.mem_cons,List.not_mem_nil,or_false] at hx; omega) (by simp only [Aq,Au,Ar,Am,Ak,Ap,List.length_append,List.length_cons,List.length_nil,List.length_take,List.length_drop,List.length_map,Cr,Dp,Bj,Bk] at *; omega)) Z Z Z ?_
     rintro _ w128 ⟨A120,n121,c122,rfl,g129,hn123⟩
     have H130:Sp [Aa b16 166 [.slice A120 n121 c122],Ai 5 1 A120 n121 c122 (Df (((((Ci [rh.order,rh.next] ++ Ci [rh.t0,rh.t1,rh.t2,rh.t3]) ++ Ci [((rh.objs.n:Nat):Int)]) ++ putObjs (h.objs.take k)) ++ Ci ([e84.handle,e84.blk.at_,(e84.words.n:Nat),(e84.links.n:Nat)])))),Aa b113 3 [(J e84.handle),(J e84.blk.at_),(J (e84.words.n:Nat)),(J (e84.links.n:Nat))],Aa b99 136 e84.cells,Aa b2 47 rh.cells,Bd w Bl] w128:=K127 _ _ g129
     have z131:=(H130.fix (i:=5) rfl).size
     refine cS (cT (zm (.pointer (some ⟨b16,0,none⟩)) Z (zg Z (fa136_2 (b:=⟨b99,3,none⟩) Z Z) (zl (.slice e84.words.a e84.words.n e84.words.c) lo134 (H130.ob (i:=3) Z) Z ?_))))
     obtain ⟨S136,hS137,hO138,K139⟩:=H130.takeN 2
     refine aU call146 (outI2 _ S136 b16 n121 c122 A120 (((((Ci [rh.order,rh.next] ++ Ci [rh.t0,rh.t1,rh.t2,rh.t3]) ++ Ci [((rh.objs.n:Nat):Int)]) ++ putObjs (h.objs.take k)) ++ Ci ([e84.handle,e84.blk.at_,(e84.words.n:Nat),(e84.links.n:Nat)]))) hS137 o86.words _ e84.words.n e84.words.c (Cw hO138 (j:=3) Z oR88.rw_ (by omega)) (by first | rfl | assumption | omega) (by simp only [Aq,Au,Ar,Am,Ak,Ap,List.length_append,List.length_cons,List.length_nil,List.length_take,List.length_drop,List.length_map,Cr,Dp,Bj,Bk] at *; omega)) Z Z Z ?_
     rintro _ w140 ⟨A132,n133,c134,rfl,g141,hn135⟩
     have H142:Sp [Aa b16 166 [.slice A132 n133 c134],Ai 5 1 A132 n133 c134 (Df ((((((Ci [rh.order,rh.next] ++ Ci [rh.t0,rh.t1,rh.t2,rh.t3]) ++ Ci [((rh.objs.n:Nat):Int)]) ++ putObjs (h.objs.take k)) ++ Ci ([e84.handle,e84.blk.at_,(e84.words.n:Nat),(e84.links.n:Nat)])) ++ encW o86.words))),Aa b113 3 [(J e84.handle),(J e84.blk.at_),(J (e84.words.n:Nat)),(J (e84.links.n:Nat))],Aa b99 136 e84.cells,Aa b2 47 rh.cells,Bd w Bl] w140:=K139 _ _ g141
     have z143:=(H142.fix (i:=5) rfl).size
     refine cS (aL (zm (.pointer (some ⟨b16,0,none⟩)) Z (zg Z (fa136_3 (b:=⟨b99,4,none⟩) Z Z) (zl (.slice e84.links.a e84.links.n e84.links.c) lo134 (H142.ob (i:=3) Z) Z ?_))))
     obtain ⟨S148,hS149,hO150,K151⟩:=H142.takeN 2
     refine aU call145 (outN2 _ S148 b16 n133 c134 A132 ((((((Ci [rh.order,rh.next] ++ Ci [rh.t0,rh.t1,rh.t2,rh.t3]) ++ Ci [((rh.objs.n:Nat):Int)]) ++ putObjs (h.objs.take k)) ++ Ci ([e84.handle,e84.blk.at_,(e84.words.n:Nat),(e84.links.n:Nat)])) ++ encW o86.words)) hS149 o86.links _ e84.links.n e84.links.c (Cw hO150 (j:=3) Z oR88.rl (by omega)) (by first | rfl | assumption | omega) (ho5) (by simp only [Aq,Au,Ar,Am,Ak,Ap,List.length_append,List.length_cons,List.length_nil,List.length_take,List.length_drop,List.length_map,Cr,Dp,Bj,Bk] at *; omega)) Z Z Z ?_
     rintro _ w152 ⟨A144,n145,c146,rfl,g153,hn147⟩
     have H154:Sp [Aa b16 166 [.slice A144 n145 c146],Ai 5 1 A144 n145 c146 (Df (((((((Ci [rh.order,rh.next] ++ Ci [rh.t0,rh.t1,rh.t2,rh.t3]) ++ Ci [((rh.objs.n:Nat):Int)]) ++ putObjs (h.objs.take k)) ++ Ci ([e84.handle,e84.blk.at_,(e84.words.n:Nat),(e84.links.n:Nat)])) ++ encW o86.words) ++ Ci o86.links))),Aa b113 3 [(J e84.handle),(J e84.blk.at_),(J (e84.words.n:Nat)),(J (e84.links.n:Nat))],Aa b99 136 e84.cells,Aa b2 47 rh.cells,Bd w Bl] w152:=K151 _ _ g153
     have z155:=(H154.fix (i:=5) rfl).size
     refine aM (inB.n (aQ (aL (zg Z (bI (r:=(k:Int) + 1) Z Z (Dl (by omega) (by omega))) (zm (J ((k:Int) + 1)) Z (cS ?_))))))
     have H156:Sp [Aa b16 166 [.slice A144 n145 c146],Ai 5 1 A144 n145 c146 (Df ((((Ci [rh.order,rh.next] ++ Ci [rh.t0,rh.t1,rh.t2,rh.t3]) ++ Ci [((rh.objs.n:Nat):Int)]) ++ putObjs (h.objs.take (k + 1))))),Aa b113 3 [(J e84.handle),(J e84.blk.at_),(J (e84.words.n:Nat)),(J (e84.links.n:Nat))],Aa b99 136 e84.cells,Aa b2 47 rh.cells,Bd w Bl] w152:=H154.eqR (i:=1) rfl rfl (by rw [take_snoc ho87,putObjs_snoc,putObj,← oR88.wl,← oR88.ll,← oR88.h,← oR88.b]; simp only [List.append_assoc]) rfl
     refine ⟨(by repeat (first | exact aJ _ _ | exact aH _ _ | refine aI ?_ Z _)),_,?_,k + 1,n145,c146,A144,rfl,rfl,(H156.sel [0,1,4,5] (by decide) Z),by omega,by simp only [Aq,Au,Ar,Am,Ak,Ap,List.length_append,List.length_cons,List.length_nil,List.length_take,List.length_drop,List.length_map,Cr,Dp,Bj,Bk] at *; omega⟩
     omega
    ·refine cS (aD (aF Z (aC (aS (aS (Bo (aQ (cT (zm (.pointer (some ⟨b16,0,none⟩)) Z (zg Z (bX Z) (zg Z (fa166_0 (b:=⟨b16,0,none⟩) Z Z) (zl (.slice A1 n1 c1) lo97 (H81.ob (i:=0) Z) Z (za (.slice A1 n1 c1) Z (za (J 0) Z (cS (aB (aO (v:=(.tuple #[(.slice A1 n1 c1),(J 0)])) (res2 Z Z Z) ?_)))))))))))))))))
     have hkk:h.objs.take k = h.objs:=List.take_of_length_le (by omega)
     have hx:(((Ci [rh.order,rh.next] ++ Ci [rh.t0,rh.t1,rh.t2,rh.t3]) ++ Ci [((rh.objs.n:Nat):Int)]) ++ putObjs (h.objs.take k)) = Bn h:=by rw [hkk]; unfold Bn; rw [← H.order,← H.next,← H.tops,← hol,← hon]
     rw [hx] at H81
     exact ⟨_,_,_,by unfold putHeapX; rw [hbb]; rfl,by unfold putHeapX; rw [hbb]; exact (H81.sel [1,3] (by decide) Z)⟩
set_option maxHeartbeats 1000000 in
set_option maxRecDepth 20000 in
theorem putState_ (w : World) (B : Nat) (rs : RState) (ros : List RObj) (s : State) (H : StateR w B rs ros s) (hB : B ≤ w.heap.size) : Ret prog 74 [(.agg (rs.cells).toArray)] w (fun v w' => ∃ (A' : Option Addr) (n' c' : Nat), v = .tuple #[.slice A' n' c', .int .i64 (Ds s).2] ∧ Sp ([Ai 5 1 A' n' c' (Df (Ds s).1)] ++ [Bd w Bl]) w') := by
  have hrn:=H.rn
  have hrm:=H.rm
  have H0:Sp [Bd w Bl] w:=Bv w
  refine aP func74 Z Z Z ?_
  refine cT (bH (cs:=rs.cells) Z Z Z ?_)
  intro w1 b2 hb3 hz4 g5 o6
  have H7:=H0.newB g5 o6 (by omega)
  have z8:=g5.size
  refine za (.slice none 0 0) Z (za (J 0) Z (cS (aD (cT (zg Z (bW Z (Aj (cs:=rs.cells) wh50 (H7.ob (i:=0) Z).cl)) (aU call96 (imgCheck_ _ _ rs _ _ (H.st0 (H7.fix (i:=1) Z)) (by omega)) Z Z Z ?_))))))
  rintro _ w9 ⟨rfl,g10⟩
  have H11:=H7.grow g10
  have z12:=g10.size
  refine za (J (if Cy s then 0 else 60)) Z (cS (cT (zm (J (if Cy s then 0 else 60)) Z ?_)))
  refine zc (((if Cy s then 0 else 60):Int) ≠ (0:Int)) Z (fun r hr=>bQ Z Z hr) (fun h13=>?_) (fun h13=>?_)
  ·refine cS (aE Z (cT (zm (J (if Cy s then 0 else 60)) Z (za (.slice none 0 0) Z (za (J (if Cy s then 0 else 60)) Z (cS (aB (aR (aO (v:=(.tuple #[(.slice none 0 0),(J (if Cy s then 0 else 60))])) (res2 Z Z Z) ?_)))))))))
   have H14:=H11.nil_ 5 1
   have hbb:Cy s = false:=by
     cases hkb:Cy s with
     | false=>rfl
     | true=>rw [hkb] at h13; exact absurd rfl h13
   exact ⟨none,0,0,by unfold Ds; rw [hbb]; rfl,by unfold Ds; rw [hbb]; exact (H14.sel [0,2] (by decide) Z)⟩
  ·refine cS (aF Z (aA (aQ (cT (zg Z (fa50_0 (b:=⟨b2,0,none⟩) Z Z) (zg Z (bW Z (Aj (cs:=[(J rs.heap.order),(.slice rs.heap.objs.a rs.heap.objs.n rs.heap.objs.c),(J rs.heap.next),(J rs.heap.t0),(J rs.heap.t1),(J rs.heap.t2),(J rs.heap.t3),(.slice rs.heap.free.a rs.heap.free.n rs.heap.free.c)]) wh47 ((H11.ob (i:=0) Z).sub 0 8))) (aU call77 (putHeap_ _ _ rs.heap _ _ (H.heap.st0 (H11.fix (i:=1) Z)) (by omega)) Z Z Z ?_)))))))
   rintro _ w18 ⟨A15,n16,c17,rfl,g19⟩
   have g20:=g19.fix (i:=1) rfl
   have H21:Sp [Ai 5 1 A15 n16 c17 (Df ((putHeapX s.heap).1)),Aa b2 50 rs.cells,Bd w Bl] w18:=H11.join (m:=[Ai 5 1 A15 n16 c17 (Df ((putHeapX s.heap).1))]) g19
   have z22:=g20.size
   refine zm (.tuple #[(.slice A15 n16 c17),(J ((putHeapX s.heap).2))]) Z (zx (.slice A15 n16 c17) Z (zx (J ((putHeapX s.heap).2)) Z (za (.slice A15 n16 c17) Z (za (J ((putHeapX s.heap).2)) Z (cS (cT (zg Z (bY (cs:=[(.slice none 0 0)]) bd166 Z) (bH (cs:=[(.slice none 0 0)]) Z Z Z ?_))))))))
   intro w23 b24 hb25 hz26 g27 o28
   have H29:=H21.newB g27 o28 (by omega)
   have z30:=g27.size
   refine za (.pointer (some ⟨b24,0,none⟩)) Z (cS (cT (zm (.pointer (some ⟨b24,0,none⟩)) Z (zm (.slice A15 n16 c17) Z ?_))))
   have hln:=H29.len (i:=1) rfl
   rw [Aq] at hln
   have hsb:Cy s = true:=by
      cases hkb:Cy s with
      | true=>rfl
      | false=>rw [hkb] at h13; exact absurd h13 (by decide)
   have hsb2:=stateB_t hsb
   have hph:(putHeapX s.heap).1 = Bn s.heap:=by unfold putHeapX; rw [if_pos hsb2.1]
   have hpl:=putHeapL_len hsb2.1
   have hrl:=rowsB_len (by omega) hsb2.2
   have hrr:=rowsB_rng (Int.le_refl 0) hsb2.2
   rw [hph] at hln H29
   refine zg Z (Ex.b2s (bs:=Bn s.heap) underlying97 underlying5 underlying9 Z (H29.rowrd (i:=1) Z) (by omega)) ?_
   have htk:(Bn s.heap).take n16 = Bn s.heap:=List.take_of_length_le (by omega)
   rw [htk]
   refine aU call144 (putText_ _ 0 0 0 _ ([]) (Rd.nil_ _ 0 1 none) (by first | rfl | omega) (by omega) (Bn s.heap) (by omega)) Z Z Z ?_
   rintro _ w36 ⟨A31,m32,c33,rfl,g37,hm34,ow35⟩
   have H38:=H29.newR g37 ow35 (Nat.le_refl _)
   have z39:=g37.size
   refine zm (.tuple #[(.slice A31 m32 c33),(J 0)]) Z (zx (.slice A31 m32 c33) Z (zx (J 0) Z (zg Z (bX Z) (zg Z (fa166_0 (b:=⟨b24,0,none⟩) Z Z) (bE (vs:=[(.slice A31 m32 c33)]) (cs':=[(.slice A31 m32 c33)]) sizeOf97 (H38.ob (i:=1) Z) Z Z Z Z Z Z ?_)))))
   intro w40 hz41 g42 o43
   have H44:Sp [Ai 5 1 A31 m32 c33 (Df (([] ++ Cr (Bn s.heap).length ++ (Bn s.heap)))),Aa b24 166 [(.slice A31 m32 c33)],Ai 5 1 A15 n16 c17 (Df (Bn s.heap)),Aa b2 50 rs.cells,Bd w Bl] w40:=H38.setB (i:=1) rfl g42 o43 rfl
   have z45:=g42.size
   refine cS (cT (zm (.pointer (some ⟨b24,0,none⟩)) Z (zg Z (fa50_1 (b:=⟨b2,8,none⟩) Z Z) (zl (.slice rs.rows.a rs.rows.n rs.rows.c) lo48 (H44.ob (i:=3) Z) Z (zg Z (bR underlying48 Z) (cF (cs:=[(J (rs.rows.n:Nat))]) underlying134 sizeOf3 ze134 Z Z Z (by decide) Z Z Z ?_))))))
   intro w46 b47 hb48 hz49 g50 o51
   have H52:=H44.newB g50 o51 (by omega)
   have z53:=g50.size
   obtain ⟨S58,hS59,hO60,K61⟩:=Sp.takeL (l1:=[Aa b24 166 [(.slice A31 m32 c33)],Ai 5 1 A31 m32 c33 (Df (([] ++ Cr (Bn s.heap).length ++ (Bn s.heap))))]) (l2:=[Aa b47 3 [(J (rs.rows.n:Nat))],Ai 5 1 A15 n16 c17 (Df (Bn s.heap)),Aa b2 50 rs.cells,Bd w Bl]) (w:=w46) (H52.sel [2,1,0,3,4,5] (by decide) rfl)
   refine aU call145 (outN2 _ S58 b24 m32 c33 A31 (([] ++ Cr (Bn s.heap).length ++ (Bn s.heap))) hS59 ([(rs.rows.n:Nat)]) _ 1 1 (RdN.of_blk hO60 (j:=0) Z (Ob.rdI (l:=[(rs.rows.n:Nat)]) (H52.ob (i:=0) Z) Z)) (by first | rfl | assumption | omega) (by intro x hx; simp only [List.mem_cons,List.not_mem_nil,or_false] at hx; omega) (by simp only [Aq,Au,Ar,Am,Ak,Ap,List.length_append,List.length_cons,List.length_nil,List.length_take,List.length_drop,List.length_map,Cr,Dp,Bj,Bk] at *; omega)) Z Z Z ?_
   rintro _ w62 ⟨A54,n55,c56,rfl,g63,hn57⟩
   have H65:Sp [Aa b24 166 [.slice A54 n55 c56],Ai 5 1 A54 n55 c56 (Df ((([] ++ Cr (Bn s.heap).length ++ (Bn s.heap)) ++ Ci ([(rs.rows.n:Nat)])))),Aa b47 3 [(J (rs.rows.n:Nat))],Ai 5 1 A15 n16 c17 (Df (Bn s.heap)),Aa b2 50 rs.cells,Bd w Bl] w62:=K61 _ _ g63
   have z66:=(H65.fix (i:=5) rfl).size
   refine cS (aD (cT (zg Z (fa50_1 (b:=⟨b2,8,none⟩) Z Z) (zl (.slice rs.rows.a rs.rows.n rs.rows.c) lo48 (H65.ob (i:=4) Z) Z (zg Z (bR underlying48 Z) (zm (J 0) Z (cS (aG ?_))))))))
   have hz0:(([] ++ Cr (Bn s.heap).length ++ (Bn s.heap)) ++ Ci ([(rs.rows.n:Nat)])) = ((([] ++ Cr (Bn s.heap).length ++ Bn s.heap) ++ Ci [((rs.rows.n:Nat):Int)]) ++ putRows (s.rows.take 0)):=by simp [putRows]
   refine aK (fun t=>Nat.beq t 9 || (Nat.ble 41 t && Nat.ble t 61)) (fun nL ρ wl => ∃ (k n1 c1:Nat) (A1:Option Addr),ρ 41 = (J (k:Int))∧nL = rs.rows.n - k∧Sp [Aa b24 166 [.slice A1 n1 c1],Ai 5 1 A1 n1 c1 (Df (((([] ++ Cr (Bn s.heap).length ++ Bn s.heap) ++ Ci [((rs.rows.n:Nat):Int)]) ++ putRows (s.rows.take k)))),Aa b2 50 rs.cells,Bd w Bl] wl∧k ≤ rs.rows.n∧n1 ≤ 4132 + 20 * k) (rs.rows.n) ?aa0 ?bb0
   case aa0 =>
    have H67:Sp [Aa b24 166 [.slice A54 n55 c56],Ai 5 1 A54 n55 c56 (Df (((([] ++ Cr (Bn s.heap).length ++ Bn s.heap) ++ Ci [((rs.rows.n:Nat):Int)]) ++ putRows (s.rows.take 0)))),Aa b47 3 [(J (rs.rows.n:Nat))],Ai 5 1 A15 n16 c17 (Df (Bn s.heap)),Aa b2 50 rs.cells,Bd w Bl] w62:=H65.eqR (i:=1) rfl rfl (congrArg Df hz0) rfl
    exact ⟨0,n55,c56,A54,rfl,rfl,(H67.sel [0,1,4,5] (by decide) Z),Nat.zero_le _,by simp only [Aq,Au,Ar,Am,Ak,Ap,List.length_append,List.length_cons,List.length_nil,List.length_take,List.length_drop,List.length_map,Cr,Dp,Bj,Bk] at *; omega⟩
   case bb0 =>
    rintro n69 ρ0 w68 ho70 ⟨k,n1,c1,A1,hs0_41,hn0,H71,hk,hn1⟩
    obtain ⟨j0,rfl⟩:=ho70.shape1 hs0_41
    clear ho70 hs0_41
    subst hn0
    have z72:=(H71.fix (i:=3) rfl).size
    have hlen:=(H71.len (i:=1) rfl)
    rw [Aq] at hlen
    refine cT ?_
    refine zc (((k:Int):Int) < ((rs.rows.n:Nat):Int)) Z (fun r hr=>bL Z Z hr) (fun h73=>?_) (fun h73=>?_)
    ·refine cS (aD (aE Z (aA (aQ (aD (aG (cT ?_)))))))
     obtain ⟨e74,he75⟩ : ∃ e,(s.rows)[k]? = some e:=⟨_,List.getElem?_eq_getElem (by omega)⟩
     obtain ⟨ad76,hA77⟩:=Rd.sm (H.rr.st0 (H71.fix (i:=3) rfl)) (rows_get he75)
     have hl78:=Eng.lt_len (rows_get he75)
     refine zg Z (bS (b:=(ad76.add (k * 4))) (i:=k) underlying48 sizeOf123 (by rw [← hA77]; rfl) Z (by omega) (by omega) Z) (zg Z (bW Z (Aj (cs:=e74.cells) wh123 (Rd.cl (H.rr.st0 (H71.fix (i:=3) Z)) hA77 (rows_get he75)))) (bG (cs:=[(J 0),(J 0),(J 0),(J 0)]) zeroValue123 Z Z Z ?_))
     intro w79 b80 hb81 hz82 g83 o84
     have H85:=H71.newB g83 o84 (by omega)
     have z86:=g83.size
     refine bE (vs:=e74.cells) (cs':=e74.cells) sizeOf123 (H85.ob (i:=0) Z) Z Z Z Z Z Z ?_
     intro w87 hz88 g89 o90
     have H91:Sp [Aa b80 123 e74.cells,Aa b24 166 [.slice A1 n1 c1],Ai 5 1 A1 n1 c1 (Df (((([] ++ Cr (Bn s.heap).length ++ Bn s.heap) ++ Ci [((rs.rows.n:Nat):Int)]) ++ putRows (s.rows.take k)))),Aa b2 50 rs.cells,Bd w Bl] w87:=H85.setB (i:=0) rfl g89 o90 rfl
     have z92:=g89.size
     refine cS (cT ?_)
     have hob:=hrr e74 (List.mem_of_getElem? he75)
     refine zm (.pointer (some ⟨b24,0,none⟩)) Z (zg Z (Dj (b:=⟨b80,0,none⟩) Z Z) (zl (J e74.client) Bw (H91.ob (i:=0) Z) Z (zg Z (fa123_1 (b:=⟨b80,1,none⟩) Z Z) (zl (J e74.seq) Bw (H91.ob (i:=0) Z) Z (zg Z (fa123_2 (b:=⟨b80,2,none⟩) Z Z) (zg Z (fa55_0 (b:=⟨b80,2,none⟩) Z Z) (zl (J e74.code) lo53 (H91.ob (i:=0) Z) Z (cF (cs:=[(J e74.client),(J e74.seq),(J e74.code)]) underlying134 sizeOf3 ze134 Z Z Z (by decide) Z Z Z ?_))))))))
     intro w93 b94 hb95 hz96 g97 o98
     have H99:=H91.newB g97 o98 (by omega)
     have z100:=g97.size
     obtain ⟨S105,hS106,hO107,K108⟩:=Sp.takeL (l1:=[Aa b24 166 [.slice A1 n1 c1],Ai 5 1 A1 n1 c1 (Df (((([] ++ Cr (Bn s.heap).length ++ Bn s.heap) ++ Ci [((rs.rows.n:Nat):Int)]) ++ putRows (s.rows.take k))))]) (l2:=[Aa b94 3 [(J e74.client),(J e74.seq),(J e74.code)],Aa b80 123 e74.cells,Aa b2 50 rs.cells,Bd w Bl]) (w:=w93) (H99.sel [2,3,0,1,4,5] (by decide) rfl)
     refine aU call145 (outN2 _ S105 b24 n1 c1 A1 (((([] ++ Cr (Bn s.heap).length ++ Bn s.heap) ++ Ci [((rs.rows.n:Nat):Int)]) ++ putRows (s.rows.take k))) hS106 ([e74.client,e74.seq,e74.code]) _ 3 3 (RdN.of_blk hO107 (j:=0) Z (Ob.rdI (l:=[e74.client,e74.seq,e74.code]) (H99.ob (i:=0) Z) Z)) (by first | rfl | assumption | omega) (by intro x hx; simp only [List.mem_cons,List.not_mem_nil,or_false] at hx; omega) (by simp only [Aq,Au,Ar,Am,Ak,Ap,List.length_append,List.length_cons,List.length_nil,List.length_take,List.length_drop,List.length_map,Cr,Dp,Bj,Bk] at *; omega)) Z Z Z ?_
     rintro _ w109 ⟨A101,n102,c103,rfl,g110,hn104⟩
     have H111:Sp [Aa b24 166 [.slice A101 n102 c103],Ai 5 1 A101 n102 c103 (Df ((((([] ++ Cr (Bn s.heap).length ++ Bn s.heap) ++ Ci [((rs.rows.n:Nat):Int)]) ++ putRows (s.rows.take k)) ++ Ci ([e74.client,e74.seq,e74.code])))),Aa b94 3 [(J e74.client),(J e74.seq),(J e74.code)],Aa b80 123 e74.cells,Aa b2 50 rs.cells,Bd w Bl] w109:=K108 _ _ g110
     have z112:=(H111.fix (i:=5) rfl).size
     refine cS (aL (zm (.pointer (some ⟨b24,0,none⟩)) Z (zg Z (fa123_2 (b:=⟨b80,2,none⟩) Z Z) (zg Z (fa55_1 (b:=⟨b80,3,none⟩) Z Z) (zl (J e74.value) Bw (H111.ob (i:=3) Z) Z (cF (cs:=[(J e74.value)]) underlying134 sizeOf3 ze134 Z Z Z (by decide) Z Z Z ?_))))))
     intro w113 b114 hb115 hz116 g117 o118
     have H119:=H111.newB g117 o118 (by omega)
     have z120:=g117.size
     obtain ⟨S125,hS126,hO127,K128⟩:=Sp.takeL (l1:=[Aa b24 166 [.slice A101 n102 c103],Ai 5 1 A101 n102 c103 (Df ((((([] ++ Cr (Bn s.heap).length ++ Bn s.heap) ++ Ci [((rs.rows.n:Nat):Int)]) ++ putRows (s.rows.take k)) ++ Ci ([e74.client,e74.seq,e74.code]))))]) (l2:=[Aa b114 3 [(J e74.value)],Aa b94 3 [(J e74.client),(J e74.seq),(J e74.code)],Aa b80 123 e74.cells,Aa b2 50 rs.cells,Bd w Bl]) (w:=w113) (H119.sel [1,2,0,3,4,5,6] (by decide) rfl)
     refine aU call146 (outI2 _ S125 b24 n102 c103 A101 ((((([] ++ Cr (Bn s.heap).length ++ Bn s.heap) ++ Ci [((rs.rows.n:Nat):Int)]) ++ putRows (s.rows.take k)) ++ Ci ([e74.client,e74.seq,e74.code]))) hS126 ([e74.value]) _ 1 1 (RdN.of_blk hO127 (j:=0) Z (Ob.rdI (l:=[e74.value]) (H119.ob (i:=0) Z) Z)) (by first | rfl | assumption | omega) (by simp only [Aq,Au,Ar,Am,Ak,Ap,List.length_append,List.length_cons,List.length_nil,List.length_take,List.length_drop,List.length_map,Cr,Dp,Bj,Bk] at *; omega)) Z Z Z ?_
     rintro _ w129 ⟨A121,n122,c123,rfl,g130,hn124⟩
     have H131:Sp [Aa b24 166 [.slice A121 n122 c123],Ai 5 1 A121 n122 c123 (Df (((((([] ++ Cr (Bn s.heap).length ++ Bn s.heap) ++ Ci [((rs.rows.n:Nat):Int)]) ++ putRows (s.rows.take k)) ++ Ci ([e74.client,e74.seq,e74.code])) ++ encW ([e74.value])))),Aa b114 3 [(J e74.value)],Aa b94 3 [(J e74.client),(J e74.seq),(J e74.code)],Aa b80 123 e74.cells,Aa b2 50 rs.cells,Bd w Bl] w129:=K128 _ _ g130
     have z132:=(H131.fix (i:=6) rfl).size
     refine aM (inB.n (aQ (aL (zg Z (bI (r:=(k:Int) + 1) Z Z (Dl (by omega) (by omega))) (zm (J ((k:Int) + 1)) Z (cS ?_))))))
     have H133:Sp [Aa b24 166 [.slice A121 n122 c123],Ai 5 1 A121 n122 c123 (Df (((([] ++ Cr (Bn s.heap).length ++ Bn s.heap) ++ Ci [((rs.rows.n:Nat):Int)]) ++ putRows (s.rows.take (k + 1))))),Aa b114 3 [(J e74.value)],Aa b94 3 [(J e74.client),(J e74.seq),(J e74.code)],Aa b80 123 e74.cells,Aa b2 50 rs.cells,Bd w Bl] w129:=H131.eqR (i:=1) rfl rfl (by rw [take_snoc he75,putRows_snoc,putRow]; simp only [List.append_assoc]) rfl
     refine ⟨(by repeat (first | exact aJ _ _ | exact aH _ _ | refine aI ?_ Z _)),_,?_,k + 1,n122,c123,A121,rfl,rfl,(H133.sel [0,1,5,6] (by decide) Z),by omega,by simp only [Aq,Au,Ar,Am,Ak,Ap,List.length_append,List.length_cons,List.length_nil,List.length_take,List.length_drop,List.length_map,Cr,Dp,Bj,Bk] at *; omega⟩
     omega
    ·refine cS (aD (aF Z (aC (aS (aS (Bo (aQ (cT (zm (.pointer (some ⟨b24,0,none⟩)) Z (zg Z (bX Z) (zg Z (fa166_0 (b:=⟨b24,0,none⟩) Z Z) (zl (.slice A1 n1 c1) lo97 (H71.ob (i:=0) Z) Z (za (.slice A1 n1 c1) Z (za (J 0) Z (cS (aB (aO (v:=(.tuple #[(.slice A1 n1 c1),(J 0)])) (res2 Z Z Z) ?_)))))))))))))))))
     have hkk:s.rows.take k = s.rows:=List.take_of_length_le (by omega)
     have hx:((([] ++ Cr (Bn s.heap).length ++ Bn s.heap) ++ Ci [((rs.rows.n:Nat):Int)]) ++ putRows (s.rows.take k)) = putStateL s:=by rw [hkk]; unfold putStateL; rw [H.rn]; rfl
     rw [hx] at H71
     exact ⟨_,_,_,by unfold Ds; rw [hsb]; rfl,by unfold Ds; rw [hsb]; exact (H71.sel [1,3] (by decide) Z)⟩
set_option maxHeartbeats 400000 in
set_option maxRecDepth 20000 in
theorem oplogNew_ (w:World) (o:Int):Ret prog 55 [(J o)] w (fun v w'=>v = .tuple #[.agg [.int .i64 (newK o).2.view,.int .i64 (newK o).2.normal,.int .i64 (newK o).2.base,.string (tx (newK o).2.image),.slice none 0 0].toArray,.int .i64 (newK o).1]∧w.grownBy w' none):=by
  have H0:Sp [Bd w Bl] w:=Bv w
  refine aP func55 Z Z Z ?_
  refine cT (bG (cs:=[(J 0),(J 0),(J 0),(.string (⟨#[]⟩)),(.slice none 0 0)]) zeroValue24 Z Z Z ?_)
  intro w1 b2 hb3 hz4 g5 o6
  have H7:=H0.newB g5 o6 (by omega)
  have z8:=g5.size
  refine za (J 0) Z (cS (cT (zm (J o) Z (aU call107 (tableNew_ _ o) Z Z Z ?_))))
  rintro _ w13 (⟨rs9,rfl,g14,hw10,S11⟩ | ⟨rfl,g15,hw12⟩)
  ·have H16:=H7.newS g14 S11 (Nat.le_refl _)
   have z17:=g14.size
   refine zm (.tuple #[(.agg (rs9.cells).toArray),(J 0)]) Z (zx (.agg (rs9.cells).toArray) Z (zx (J 0) Z (bG (cs:=zState) zeroValue50 Z Z Z ?_)))
   intro w18 b19 hb20 hz21 g22 o23
   have H24:=H16.newB g22 o23 (by omega)
   have z25:=g22.size
   refine bE (vs:=rs9.cells) (cs':=rs9.cells) sizeOf50 (H24.ob (i:=0) Z) Z Z Z Z Z Z ?_
   intro w26 hz27 g28 o29
   have H30:Sp [Aa b19 50 rs9.cells,StA rs9 [] (⟨newHeap o,[]⟩),Aa b2 24 [(J 0),(J 0),(J 0),(.string (⟨#[]⟩)),(.slice none 0 0)],Bd w Bl] w26:=H24.setB (i:=0) rfl g28 o29 rfl
   have z31:=g28.size
   refine za (J 0) Z (cS (aD (cT (zm (J 0) Z (zg Z (bQ (r:=false) Z Z (by decide)) (cS (aF Z (aA (aQ (cT (zg Z (bW Z (Aj (cs:=rs9.cells) wh50 (H30.ob (i:=0) Z).cl)) (aU call74 (putState_ _ _ rs9 _ _ (H30.stR (i:=1) Z) (Nat.le_refl _)) Z Z Z ?_))))))))))))
   rintro _ w35 ⟨A32,n33,c34,rfl,g36⟩
   have g37:=g36.fix (i:=1) rfl
   have H38:Sp [Ai 5 1 A32 n33 c34 (Df ((Ds (⟨newHeap o,[]⟩)).1)),Aa b19 50 rs9.cells,StA rs9 [] (⟨newHeap o,[]⟩),Aa b2 24 [(J 0),(J 0),(J 0),(.string (⟨#[]⟩)),(.slice none 0 0)],Bd w Bl] w35:=H30.join (m:=[Ai 5 1 A32 n33 c34 (Df ((Ds (⟨newHeap o,[]⟩)).1))]) g36
   have z39:=g37.size
   refine zm (.tuple #[(.slice A32 n33 c34),(J ((Ds (⟨newHeap o,[]⟩)).2))]) Z (zx (.slice A32 n33 c34) Z (zx (J ((Ds (⟨newHeap o,[]⟩)).2)) Z (za (.slice A32 n33 c34) Z (za (J ((Ds (⟨newHeap o,[]⟩)).2)) Z (cS (cT (zm (.slice A32 n33 c34) Z ?_)))))))
   have hln:=H38.len (i:=0) rfl
   rw [Aq] at hln
   have hsm:=newBytes_len o
   refine zg Z (Ex.b2s (bs:=(Ds (⟨newHeap o,[]⟩)).1) underlying97 underlying5 underlying9 Z (H38.rowrd (i:=0) Z) (by omega)) ?_
   have htk:((Ds (⟨newHeap o,[]⟩)).1).take n33 = newBytes o:=List.take_of_length_le (by unfold newBytes at *; omega)
   rw [htk]
   refine zg Z (bY (cs:=[(J 0),(J 0),(J 0),(.string (tx (newBytes o))),(.slice none 0 0)]) bd24 Z) (bE (vs:=[(J 0),(J 0),(J 0),(.string (tx (newBytes o))),(.slice none 0 0)]) (cs':=[(J 0),(J 0),(J 0),(.string (tx (newBytes o))),(.slice none 0 0)]) sizeOf24 (H38.ob (i:=3) Z) Z Z Z Z Z Z ?_)
   intro w40 hz41 g42 o43
   have H44:Sp [Ai 5 1 A32 n33 c34 (Df ((Ds (⟨newHeap o,[]⟩)).1)),Aa b19 50 rs9.cells,StA rs9 [] (⟨newHeap o,[]⟩),Aa b2 24 [(J 0),(J 0),(J 0),(.string (tx (newBytes o))),(.slice none 0 0)],Bd w Bl] w40:=H38.setB (i:=3) rfl g42 o43 rfl
   have z45:=g42.size
   refine za (J 0) Z (cS (aB (aO (v:=(.tuple #[(.agg ([(J 0),(J 0),(J 0),(.string (tx (newBytes o))),(.slice none 0 0)]).toArray),(J 0)])) (Ch Z (cA Z (Aj (cs:=[(J 0),(J 0),(J 0),(.string (tx (newBytes o))),(.slice none 0 0)]) Ct (H44.ob (i:=3) Z).cl)) (bZ Z)) ?_)))
   exact ⟨by unfold newK newBytes Ds; rw [if_pos hw10,if_pos (newState_ok hw10)],(H44.fix (i:=4) Z)⟩
  ·have H46:=H7.grow g15
   have z47:=g15.size
   refine zm (.tuple #[(.agg (zState).toArray),(J 1)]) Z (zx (.agg (zState).toArray) Z (zx (J 1) Z (bG (cs:=zState) zeroValue50 Z Z Z ?_)))
   intro w48 b49 hb50 hz51 g52 o53
   have H54:=H46.newB g52 o53 (by omega)
   have z55:=g52.size
   refine bE (vs:=zState) (cs':=zState) sizeOf50 (H54.ob (i:=0) Z) Z Z Z Z Z Z ?_
   intro w56 hz57 g58 o59
   have H60:Sp [Aa b49 50 zState,Aa b2 24 [(J 0),(J 0),(J 0),(.string (⟨#[]⟩)),(.slice none 0 0)],Bd w Bl] w56:=H54.setB (i:=0) rfl g58 o59 rfl
   have z61:=g58.size
   refine za (J 1) Z (cS (aD (cT (zm (J 1) Z (zg Z (bQ (r:=true) Z Z (by decide)) (cS (aE Z (cT (zg Z (bY (cs:=[(J 0),(J 0),(J 0),(.string (⟨#[]⟩)),(.slice none 0 0)]) bd24 Z) (zm (J 1) Z (bE (vs:=[(J 0),(J 0),(J 0),(.string (⟨#[]⟩)),(.slice none 0 0)]) (cs':=[(J 0),(J 0),(J 0),(.string (⟨#[]⟩)),(.slice none 0 0)]) sizeOf24 (H60.ob (i:=1) Z) Z Z Z Z Z Z ?_)))))))))))
   intro w62 hz63 g65 o66
   have H67:Sp [Aa b49 50 zState,Aa b2 24 [(J 0),(J 0),(J 0),(.string (⟨#[]⟩)),(.slice none 0 0)],Bd w Bl] w62:=H60.setB (i:=1) rfl g65 o66 rfl
   have z68:=g65.size
   refine za (J 1) Z (cS (aB (aR (aO (v:=(.tuple #[(.agg ([(J 0),(J 0),(J 0),(.string (⟨#[]⟩)),(.slice none 0 0)]).toArray),(J 1)])) (Ch Z (cA Z (Aj (cs:=[(J 0),(J 0),(J 0),(.string (⟨#[]⟩)),(.slice none 0 0)]) Ct (H67.ob (i:=1) Z).cl)) (bZ Z)) ?_))))
   exact ⟨by unfold newK; rw [hw12]; rfl,(H67.fix (i:=2) Z)⟩
end Go.Proofs.YtfokljnhllflbaaGreat
namespace Go.Proofs.YtfokljnhllflbaaGreat
open Go Go.Eng Go.RowKit Go.Proofs.Tryz
theorem oplogNew3 {w:World} : Ret prog 55 [.int .i64 3] w (fun v w'=>v = .tuple #[.agg [.int .i64 fk0.view,.int .i64 fk0.normal,.int .i64 fk0.base,.string (tx fk0.image),.slice none 0 0].toArray,.int .i64 0]∧w.grownBy w' none):=by
  have h:=oplogNew_ w 3
  rw [newK3] at h
  exact h
set_option maxHeartbeats 400000 in
set_option maxRecDepth 20000 in
theorem entry15 (w:World) (n:Int):Ret prog 112 [(J n)] w (fun v w'=>v = (.agg ([(J n),(J 0),(J 0),(J 0),(J 0),(J 0),(J 0),(J 0),(J 0),(J 0),(J 0)]).toArray)∧w.grownBy w' none):=by
  have H0:Sp [Bd w Bl] w:=Bv w
  refine aP func112 Z Z Z ?_
  refine cT (bG (cs:=[(J 0),(J 0),(J 0),(J 0),(J 0),(J 0),(J 0),(J 0),(J 0),(J 0),(J 0)]) zeroValue31 Z Z Z ?_)
  intro w1 b2 hb3 hz4 g5 o6
  have H7:=H0.newB g5 o6 (by omega)
  have z8:=g5.size
  refine cS (cT (zm (J n) Z (zg Z (bY (cs:=[(J n),(J 0),(J 0),(J 0),(J 0),(J 0),(J 0),(J 0),(J 0),(J 0),(J 0)]) bd31 Z) (bE (vs:=[(J n),(J 0),(J 0),(J 0),(J 0),(J 0),(J 0),(J 0),(J 0),(J 0),(J 0)]) (cs':=[(J n),(J 0),(J 0),(J 0),(J 0),(J 0),(J 0),(J 0),(J 0),(J 0),(J 0)]) sizeOf31 (H7.ob (i:=0) Z) Z Z Z Z Z Z ?_))))
  intro w9 hz10 g11 o12
  have H13:Sp [Aa b2 31 [(J n),(J 0),(J 0),(J 0),(J 0),(J 0),(J 0),(J 0),(J 0),(J 0),(J 0)],Bd w Bl] w9:=H7.setB (i:=0) rfl g11 o12 rfl
  have z14:=g11.size
  refine cS (aB (aO (v:=(.agg ([(J n),(J 0),(J 0),(J 0),(J 0),(J 0),(J 0),(J 0),(J 0),(J 0),(J 0)]).toArray)) (resv1 Z (cA Z (Aj (cs:=[(J n),(J 0),(J 0),(J 0),(J 0),(J 0),(J 0),(J 0),(J 0),(J 0),(J 0)]) wh31 (H13.ob (i:=0) Z).cl))) ?_))
  exact ⟨Z,(H13.fix (i:=1) Z)⟩
set_option maxHeartbeats 400000 in
set_option maxRecDepth 20000 in
theorem laid15 (w:World) (n:Int):Ret prog 111 [(J n)] w (fun v w'=>v = (.agg ([(J 2),(J 0),(J 0),(J 0),(.string (⟨#[]⟩)),(J n),(J 0),(J 0),(J 0),(J 0),(J 0),(J 0),(J 0),(J 0),(J 0),(J 0),(.slice none 0 0)]).toArray)∧w.grownBy w' none):=by
  have H0:Sp [Bd w Bl] w:=Bv w
  refine aP func111 Z Z Z ?_
  refine cT (bG (cs:=[(J 0),(J 0),(J 0),(J 0),(.string (⟨#[]⟩)),(J 0),(J 0),(J 0),(J 0),(J 0),(J 0),(J 0),(J 0),(J 0),(J 0),(J 0),(.slice none 0 0)]) zeroValue33 Z Z Z ?_)
  intro w1 b2 hb3 hz4 g5 o6
  have H7:=H0.newB g5 o6 (by omega)
  have z8:=g5.size
  refine cS (cT (zm (J n) Z (aU call112 (entry15 _ n) Z Z Z ?_)))
  rintro _ w9 ⟨rfl,g10⟩
  have H11:=H7.grow g10
  have z12:=g10.size
  refine zg Z (bY (cs:=[(J 2),(J 0),(J 0),(J 0),(.string (⟨#[]⟩)),(J n),(J 0),(J 0),(J 0),(J 0),(J 0),(J 0),(J 0),(J 0),(J 0),(J 0),(.slice none 0 0)]) bd33 Z) (bE (vs:=[(J 2),(J 0),(J 0),(J 0),(.string (⟨#[]⟩)),(J n),(J 0),(J 0),(J 0),(J 0),(J 0),(J 0),(J 0),(J 0),(J 0),(J 0),(.slice none 0 0)]) (cs':=[(J 2),(J 0),(J 0),(J 0),(.string (⟨#[]⟩)),(J n),(J 0),(J 0),(J 0),(J 0),(J 0),(J 0),(J 0),(J 0),(J 0),(J 0),(.slice none 0 0)]) sizeOf33 (H11.ob (i:=0) Z) Z Z Z Z Z Z ?_)
  intro w13 hz14 g15 o16
  have H17:Sp [Aa b2 33 [(J 2),(J 0),(J 0),(J 0),(.string (⟨#[]⟩)),(J n),(J 0),(J 0),(J 0),(J 0),(J 0),(J 0),(J 0),(J 0),(J 0),(J 0),(.slice none 0 0)],Bd w Bl] w13:=H11.setB (i:=0) rfl g15 o16 rfl
  have z18:=g15.size
  refine cS (aB (aO (v:=(.agg ([(J 2),(J 0),(J 0),(J 0),(.string (⟨#[]⟩)),(J n),(J 0),(J 0),(J 0),(J 0),(J 0),(J 0),(J 0),(J 0),(J 0),(J 0),(.slice none 0 0)]).toArray)) (resv1 Z (cA Z (Aj (cs:=[(J 2),(J 0),(J 0),(J 0),(.string (⟨#[]⟩)),(J n),(J 0),(J 0),(J 0),(J 0),(J 0),(J 0),(J 0),(J 0),(J 0),(J 0),(.slice none 0 0)]) wh33 (H17.ob (i:=0) Z).cl))) ?_))
  exact ⟨Z,(H17.fix (i:=1) Z)⟩
set_option maxHeartbeats 400000 in
set_option maxRecDepth 20000 in
theorem big15 (w:World) (k:Kept) (A:Option Addr) (n c:Nat) (hn:n = k.ents.length) (r:Rec) (A2:Option Addr) (n2 c2:Nat) (hn2:n2 = r.ents.length):Ret prog 23 [(.agg ((kC k A n c)).toArray),(.agg ((rC r A2 n2 c2)).toArray)] w (fun v w'=>v = .bool (bigK k r)∧w.grownBy w' none):=by
  have hti:(tx k.image).size = k.image.length:=tx_size _
  have hti2:(tx r.image).size = r.image.length:=tx_size _
  have H0:Sp [Bd w Bl] w:=Bv w
  refine aP func23 Z Z Z ?_
  refine cT (bH (cs:=(kC k A n c)) Z Z Z ?_)
  intro w1 b2 hb3 hz4 g5 o6
  have H7:=H0.newB g5 o6 (by omega)
  have z8:=g5.size
  refine bH (cs:=(rC r A2 n2 c2)) Z Z Z ?_
  intro w9 b10 hb11 hz12 g13 o14
  have H15:=H7.newB g13 o14 (by omega)
  have z16:=g13.size
  refine za bF Z (cS (cT (zg Z (Cv (b:=⟨b2,4,none⟩) Z Z) (zl (.slice A n c) lo22 (H15.ob (i:=1) Z) Z (zg Z (bR underlying22 Z) ?_)))))
  refine zc ((300:Int) < ((n:Nat):Int)) Z (fun r hr=>bN Z Z hr) (fun h17=>?_) (fun h17=>?_)
  ·refine zm bT Z (zo Z (zo Z (zo Z (zo Z (zT bT Z (zm bT Z (zo Z (zo Z (zo Z (zo Z ?_))))))))))
   refine zT bT Z (zm bT Z (zo Z (zo Z (zo Z (zo Z (zT bT Z (za bT Z (cS (aB (aO (v:=bT) (Ba Z Z) ?_))))))))))
   exact ⟨At (by unfold bigK; first | (simp; omega) | (simp only [Bool.true_eq,Bool.or_eq_true,decide_eq_true_eq]; omega) | (simp only [Bool.false_eq,Bool.or_eq_false_iff,decide_eq_false_iff_not]; omega)),(H15.fix (i:=2) Z)⟩
  ·refine zm bF Z (zg Z (fa33_6 (b:=⟨b10,16,none⟩) Z Z) (zl (.slice A2 n2 c2) lo22 (H15.ob (i:=0) Z) Z (zg Z (bR underlying22 Z) ?_)))
   refine zc ((300:Int) < ((n2:Nat):Int)) Z (fun r hr=>bN Z Z hr) (fun h18=>?_) (fun h18=>?_)
   ·refine zF bT Z (zm bT Z (zo Z (zo Z (zo Z (zo Z (zT bT Z (zm bT Z (zo Z (zo Z (zo Z ?_))))))))))
    refine zo Z (zT bT Z (za bT Z (cS (aB (aO (v:=bT) (Ba Z Z) ?_)))))
    exact ⟨At (by unfold bigK; first | (simp; omega) | (simp only [Bool.true_eq,Bool.or_eq_true,decide_eq_true_eq]; omega) | (simp only [Bool.false_eq,Bool.or_eq_false_iff,decide_eq_false_iff_not]; omega)),(H15.fix (i:=2) Z)⟩
   ·refine zF bF Z (zm bF Z (zg Z (fa24_3 (b:=⟨b2,3,none⟩) Z Z) (zl (.string (tx k.image)) lo9 (H15.ob (i:=1) Z) Z (zg Z (Ex.lenS underlying9 Z) ?_))))
    refine zc ((100000:Int) < (((tx k.image).size:Nat):Int)) Z (fun r hr=>bN Z Z hr) (fun h19=>?_) (fun h19=>?_)
    ·refine zF bT Z (zm bT Z (zo Z (zo Z (zo Z (zo Z (zT bT Z (za bT Z (cS (aB (aO (v:=bT) (Ba Z Z) ?_))))))))))
     exact ⟨At (by unfold bigK; first | (simp; omega) | (simp only [Bool.true_eq,Bool.or_eq_true,decide_eq_true_eq]; omega) | (simp only [Bool.false_eq,Bool.or_eq_false_iff,decide_eq_false_iff_not]; omega)),(H15.fix (i:=2) Z)⟩
    ·refine zF bF Z (zm bF Z (zg Z (fa33_4 (b:=⟨b10,4,none⟩) Z Z) (zl (.string (tx r.image)) lo9 (H15.ob (i:=0) Z) Z (zg Z (Ex.lenS underlying9 Z) ?_))))
     refine zc ((100000:Int) < (((tx r.image).size:Nat):Int)) Z (fun r hr=>bN Z Z hr) (fun h20=>?_) (fun h20=>?_)
     ·refine zF bT Z (za bT Z (cS (aB (aO (v:=bT) (Ba Z Z) ?_))))
      exact ⟨At (by unfold bigK; first | (simp; omega) | (simp only [Bool.true_eq,Bool.or_eq_true,decide_eq_true_eq]; omega) | (simp only [Bool.false_eq,Bool.or_eq_false_iff,decide_eq_false_iff_not]; omega)),(H15.fix (i:=2) Z)⟩
     ·refine zF bF Z (za bF Z (cS (aB (aO (v:=bF) (Ba Z Z) ?_))))
      exact ⟨At (by unfold bigK; first | (simp; omega) | (simp only [Bool.true_eq,Bool.or_eq_true,decide_eq_true_eq]; omega) | (simp only [Bool.false_eq,Bool.or_eq_false_iff,decide_eq_false_iff_not]; omega)),(H15.fix (i:=2) Z)⟩
def recV:Rec:=(⟨1,3,0,0,[],(⟨0,0,0,0,⟨0,0,0,0,0,0,0⟩⟩:Entry),[]⟩:Rec)
def recU:Rec:=(⟨1,2,0,0,[],(⟨0,0,0,0,⟨0,0,0,0,0,0,0⟩⟩:Entry),[]⟩:Rec)
def recC:Rec:=(⟨4,0,0,2,fk0.image,(⟨0,0,0,0,⟨0,0,0,0,0,0,0⟩⟩:Entry),[]⟩:Rec)
def recA:Rec:=(⟨3,3,1,0,[],(⟨0,0,0,0,⟨0,0,0,0,0,0,0⟩⟩:Entry),[(⟨2,0,0,0,⟨0,0,0,0,0,0,0⟩⟩:Entry),(⟨3,0,0,0,⟨0,0,0,0,0,0,0⟩⟩:Entry)]⟩:Rec)
def fkV:Kept:=(Ay fk2 recV).2
def fkA:Kept:=(Ay fkV recA).2
def fkC:Kept:=(Ay fkA recC).2
def fkL:Kept:=(Ay fk2 (Bu 4)).2
set_option maxHeartbeats 2000000 in
set_option maxRecDepth 20000 in
theorem folds15 (w:World)  : Ret prog 43 [] w (fun v w'=>v = .bool true∧w.grownBy w' none):=by
  have H0:Sp [Bd w Bl] w:=Bv w
  refine aP func43 Z Z Z ?_
  refine cT (za bF Z (cS (cT (aU call55 (oplogNew3) Z Z Z ?_))))
  rintro _ w1 ⟨rfl,g2⟩
  have H3:=H0.grow g2
  have z4:=g2.size
  refine zm (.tuple #[(.agg ((kC fk0 none 0 0)).toArray),(J 0)]) Z (zx (.agg ((kC fk0 none 0 0)).toArray) Z (zx (J 0) Z (bG (cs:=[(J 0),(J 0),(J 0),(.string (⟨#[]⟩)),(.slice none 0 0)]) zeroValue24 Z Z Z ?_)))
  intro w5 b6 hb7 hz8 g9 o10
  have H11:=H3.newB g9 o10 (by omega)
  have z12:=g9.size
  refine bE (vs:=(kC fk0 none 0 0)) (cs':=(kC fk0 none 0 0)) sizeOf24 (H11.ob (i:=0) Z) Z Z Z Z Z Z ?_
  intro w13 hz14 g15 o16
  have H17:Sp [Aa b6 24 (kC fk0 none 0 0),Bd w Bl] w13:=H11.setB (i:=0) rfl g15 o16 rfl
  have z18:=g15.size
  refine za (J 0) Z (cS (cT (aU call55 (oplogNew_ _ 9) Z Z Z ?_)))
  rintro _ w19 ⟨rfl,g20⟩
  have H21:=H17.grow g20
  have z22:=g20.size
  refine zm (.tuple #[(.agg ((kC ((newK 9).2) none 0 0)).toArray),(J ((newK 9).1))]) Z (zx (.agg ((kC ((newK 9).2) none 0 0)).toArray) Z (zx (J ((newK 9).1)) Z (bG (cs:=[(J 0),(J 0),(J 0),(.string (⟨#[]⟩)),(.slice none 0 0)]) zeroValue24 Z Z Z ?_)))
  intro w23 b24 hb25 hz26 g27 o28
  have H29:=H21.newB g27 o28 (by omega)
  have z30:=g27.size
  refine bE (vs:=(kC ((newK 9).2) none 0 0)) (cs':=(kC ((newK 9).2) none 0 0)) sizeOf24 (H29.ob (i:=0) Z) Z Z Z Z Z Z ?_
  intro w31 hz32 g33 o34
  have H35:Sp [Aa b24 24 (kC ((newK 9).2) none 0 0),Aa b6 24 (kC fk0 none 0 0),Bd w Bl] w31:=H29.setB (i:=0) rfl g33 o34 rfl
  have z36:=g33.size
  refine za (J ((newK 9).1)) Z (cS (aD ?_))
  refine CW.mid (fun t=>(Nat.ble 5 t && Nat.ble t 6) || (Nat.ble 28 t && Nat.ble t 33)) (fun ρ wl => ∃ (b54:Nat) (A45:Option Addr) (n46:Nat) (c47:Nat),ρ 5 = (.pointer (some ⟨b54,0,none⟩))∧ρ 6 = (J ((Ay fk0 (Bu 1)).1))∧Sp [Aa b54 24 (kC fk1 A45 n46 c47),Ai 31 11 A45 n46 c47 (ents fk1.ents),Aa b24 24 (kC ((newK 9).2) none 0 0),Aa b6 24 (kC fk0 none 0 0),Bd w Bl] wl) ?_ ?_
  ·refine cN (fun wq=>Sp [Aa b24 24 (kC ((newK 9).2) none 0 0),Aa b6 24 (kC fk0 none 0 0),Bd w Bl] wq) Tryz.mixed Z ?_
   intro w69 g70
   have H71:=H35.grow g70
   have z72:=g70.size
   refine zr 0 1 Z (by kernel_rfl) H71 (fun wq hq=>bW Z (Aj (cs:=(kC fk0 none 0 0)) Ct (hq.ob (i:=1) Z).cl)) ?_
   refine cP (i:=1) (j:=6) (by kernel_rfl) ?_ ?_
   ·refine ⟨_,3,rfl,by kernel_rfl,?_⟩
    refine aU call111 (laid15 _ 1) Z Z Z ?_
    rintro _ w73 ⟨rfl,g74⟩
    have H75:=H71.grow g74
    have z76:=g74.size
    refine aM ?_
    refine ⟨H75,?_⟩
    refine cP (i:=2) (j:=6) (by kernel_rfl) ?_ ?_
    ·refine ⟨_,7,rfl,by kernel_rfl,?_⟩
     refine aU call40 (Fold_ _ w73.heap.size fk0 none 0 0 (Rd.nil_ _ _ 11 none) (by omega) (by first | assumption | rfl | omega | decide +kernel) (by first | assumption | rfl | omega | decide +kernel) (by first | assumption | rfl | omega | decide +kernel) (by first | assumption | rfl | omega | decide +kernel) (Bu 1) none 0 0 ((Rd.nil_ _ _ 11 none)) (by first | assumption | rfl | omega | decide +kernel) (by first | assumption | rfl | omega | decide +kernel) (by first | assumption | rfl | omega | decide +kernel) (by first | assumption | rfl | omega | decide +kernel)) Z Z Z ?_
     rintro _ w80 ⟨A77,n78,c79,rfl,g81⟩
     have g82:=g81.fix (i:=1) rfl
     have H83:Sp [Ai 31 11 A77 n78 c79 (ents fk1.ents),Aa b24 24 (kC ((newK 9).2) none 0 0),Aa b6 24 (kC fk0 none 0 0),Bd w Bl] w80:=H75.join (m:=[Ai 31 11 A77 n78 c79 (ents fk1.ents)]) g81
     have z84:=g82.size
     refine aM ?_
     refine ⟨(H83.sel [1,2,3] (by decide) Z),?_⟩
     refine zr 3 15 Z (by kernel_rfl) (H83.sel [1,2,3] (by decide) Z) (fun wq hq=>aX (v:=(.tuple #[(.agg ((kC fk1 A77 n78 c79)).toArray),(J ((Ay fk0 (Bu 1)).1))])) Z) (zr 4 31 Z (by kernel_rfl) (H83.sel [1,2,3] (by decide) Z) (fun wq hq=>bB (vs:=[(.agg ((kC fk1 A77 n78 c79)).toArray),(J ((Ay fk0 (Bu 1)).1))]) (v:=(.agg ((kC fk1 A77 n78 c79)).toArray)) Z Z) (zr 5 63 Z (by kernel_rfl) (H83.sel [1,2,3] (by decide) Z) (fun wq hq=>bB (vs:=[(.agg ((kC fk1 A77 n78 c79)).toArray),(J ((Ay fk0 (Bu 1)).1))]) (v:=(J ((Ay fk0 (Bu 1)).1))) Z Z) (cO (i:=6) (by kernel_rfl) ?_)))
     refine ⟨_,127,rfl,by kernel_rfl,?_⟩
     refine bG (cs:=[(J 0),(J 0),(J 0),(.string (⟨#[]⟩)),(.slice none 0 0)]) zeroValue24 Z Z Z ?_
     intro w85 b86 hb87 hz88 g89 o90
     have H91:=H83.newB g89 o90 (by omega)
     have z92:=g89.size
     refine aM ?_
     refine ⟨(H91.sel [2,3,4] (by decide) Z),?_⟩
     refine cO (i:=7) (by kernel_rfl) ?_
     refine ⟨_,255,rfl,by kernel_rfl,?_⟩
     refine bE (vs:=(kC fk1 A77 n78 c79)) (cs':=(kC fk1 A77 n78 c79)) sizeOf24 (H91.ob (i:=0) Z) Z Z Z Z Z Z ?_
     intro w93 hz94 g95 o96
     have H97:Sp [Aa b86 24 (kC fk1 A77 n78 c79),Ai 31 11 A77 n78 c79 (ents fk1.ents),Aa b24 24 (kC ((newK 9).2) none 0 0),Aa b6 24 (kC fk0 none 0 0),Bd w Bl] w93:=H91.setB (i:=0) rfl g95 o96 rfl
     have z98:=g95.size
     refine aM ?_
     refine ⟨(H97.sel [2,3,4] (by decide) Z),?_⟩
     refine zr 8 511 Z (by kernel_rfl) (H97.sel [2,3,4] (by decide) Z) (fun wq hq=>aY (v:=(J ((Ay fk0 (Bu 1)).1))) Z) (cQ (by kernel_rfl) (aQ ?_))
     exact ⟨(by repeat (first | exact aJ _ _ | exact aH _ _ | refine aI ?_ Z _)),b86,A77,n78,c79,rfl,rfl,(H97.sel [0,1,2,3,4] (by decide) Z)⟩
    ·refine ⟨_,67,rfl,by kernel_rfl,?_⟩
     refine bG (cs:=[(J 0),(J 0),(J 0),(.string (⟨#[]⟩)),(.slice none 0 0)]) zeroValue24 Z Z Z ?_
     intro w99 b100 hb101 hz102 g103 o104
     have H105:=H75.newB g103 o104 (by omega)
     have z106:=g103.size
     refine aM ?_
     refine ⟨(H105.sel [1,2,3] (by decide) Z),?_⟩
     refine cO (i:=2) (by kernel_rfl) ?_
     refine ⟨_,71,rfl,by kernel_rfl,?_⟩
     refine aU call40 (Fold_ _ w99.heap.size fk0 none 0 0 (Rd.nil_ _ _ 11 none) (by omega) (by first | assumption | rfl | omega | decide +kernel) (by first | assumption | rfl | omega | decide +kernel) (by first | assumption | rfl | omega | decide +kernel) (by first | assumption | rfl | omega | decide +kernel) (Bu 1) none 0 0 ((Rd.nil_ _ _ 11 none)) (by first | assumption | rfl | omega | decide +kernel) (by first | assumption | rfl | omega | decide +kernel) (by first | assumption | rfl | omega | decide +kernel) (by first | assumption | rfl | omega | decide +kernel)) Z Z Z ?_
     rintro _ w110 ⟨A107,n108,c109,rfl,g111⟩
     have g112:=g111.fix (i:=1) rfl
     have H113:Sp [Ai 31 11 A107 n108 c109 (ents fk1.ents),Aa b100 24 [(J 0),(J 0),(J 0),(.string (⟨#[]⟩)),(.slice none 0 0)],Aa b24 24 (kC ((newK 9).2) none 0 0),Aa b6 24 (kC fk0 none 0 0),Bd w Bl] w110:=H105.join (m:=[Ai 31 11 A107 n108 c109 (ents fk1.ents)]) g111
     have z114:=g112.size
     refine aM ?_
     refine ⟨(H113.sel [2,3,4] (by decide) Z),?_⟩
     refine zr 3 79 Z (by kernel_rfl) (H113.sel [2,3,4] (by decide) Z) (fun wq hq=>aX (v:=(.tuple #[(.agg ((kC fk1 A107 n108 c109)).toArray),(J ((Ay fk0 (Bu 1)).1))])) Z) (zr 4 95 Z (by kernel_rfl) (H113.sel [2,3,4] (by decide) Z) (fun wq hq=>bB (vs:=[(.agg ((kC fk1 A107 n108 c109)).toArray),(J ((Ay fk0 (Bu 1)).1))]) (v:=(.agg ((kC fk1 A107 n108 c109)).toArray)) Z Z) (zr 5 127 Z (by kernel_rfl) (H113.sel [2,3,4] (by decide) Z) (fun wq hq=>bB (vs:=[(.agg ((kC fk1 A107 n108 c109)).toArray),(J ((Ay fk0 (Bu 1)).1))]) (v:=(J ((Ay fk0 (Bu 1)).1))) Z Z) (cO (i:=7) (by kernel_rfl) ?_)))
     refine ⟨_,255,rfl,by kernel_rfl,?_⟩
     refine bE (vs:=(kC fk1 A107 n108 c109)) (cs':=(kC fk1 A107 n108 c109)) sizeOf24 (H113.ob (i:=1) Z) Z Z Z Z Z Z ?_
     intro w115 hz116 g117 o118
     have H119:Sp [Ai 31 11 A107 n108 c109 (ents fk1.ents),Aa b100 24 (kC fk1 A107 n108 c109),Aa b24 24 (kC ((newK 9).2) none 0 0),Aa b6 24 (kC fk0 none 0 0),Bd w Bl] w115:=H113.setB (i:=1) rfl g117 o118 rfl
     have z120:=g117.size
     refine aM ?_
     refine ⟨(H119.sel [2,3,4] (by decide) Z),?_⟩
     refine zr 8 511 Z (by kernel_rfl) (H119.sel [2,3,4] (by decide) Z) (fun wq hq=>aY (v:=(J ((Ay fk0 (Bu 1)).1))) Z) (cQ (by kernel_rfl) (aQ ?_))
     exact ⟨(by repeat (first | exact aJ _ _ | exact aH _ _ | refine aI ?_ Z _)),b100,A107,n108,c109,rfl,rfl,(H119.sel [1,0,2,3,4] (by decide) Z)⟩
   ·refine ⟨_,65,rfl,by kernel_rfl,?_⟩
    refine bG (cs:=[(J 0),(J 0),(J 0),(.string (⟨#[]⟩)),(.slice none 0 0)]) zeroValue24 Z Z Z ?_
    intro w121 b122 hb123 hz124 g125 o126
    have H127:=H71.newB g125 o126 (by omega)
    have z128:=g125.size
    refine aM ?_
    refine ⟨(H127.sel [1,2,3] (by decide) Z),?_⟩
    refine cO (i:=1) (by kernel_rfl) ?_
    refine ⟨_,67,rfl,by kernel_rfl,?_⟩
    refine aU call111 (laid15 _ 1) Z Z Z ?_
    rintro _ w129 ⟨rfl,g130⟩
    have H131:=H127.grow g130
    have z132:=g130.size
    refine aM ?_
    refine ⟨(H131.sel [1,2,3] (by decide) Z),?_⟩
    refine cO (i:=2) (by kernel_rfl) ?_
    refine ⟨_,71,rfl,by kernel_rfl,?_⟩
    refine aU call40 (Fold_ _ w129.heap.size fk0 none 0 0 (Rd.nil_ _ _ 11 none) (by omega) (by first | assumption | rfl | omega | decide +kernel) (by first | assumption | rfl | omega | decide +kernel) (by first | assumption | rfl | omega | decide +kernel) (by first | assumption | rfl | omega | decide +kernel) (Bu 1) none 0 0 ((Rd.nil_ _ _ 11 none)) (by first | assumption | rfl | omega | decide +kernel) (by first | assumption | rfl | omega | decide +kernel) (by first | assumption | rfl | omega | decide +kernel) (by first | assumption | rfl | omega | decide +kernel)) Z Z Z ?_
    rintro _ w136 ⟨A133,n134,c135,rfl,g137⟩
    have g138:=g137.fix (i:=1) rfl
    have H139:Sp [Ai 31 11 A133 n134 c135 (ents fk1.ents),Aa b122 24 [(J 0),(J 0),(J 0),(.string (⟨#[]⟩)),(.slice none 0 0)],Aa b24 24 (kC ((newK 9).2) none 0 0),Aa b6 24 (kC fk0 none 0 0),Bd w Bl] w136:=H131.join (m:=[Ai 31 11 A133 n134 c135 (ents fk1.ents)]) g137
    have z140:=g138.size
    refine aM ?_
    refine ⟨(H139.sel [2,3,4] (by decide) Z),?_⟩
    refine zr 3 79 Z (by kernel_rfl) (H139.sel [2,3,4] (by decide) Z) (fun wq hq=>aX (v:=(.tuple #[(.agg ((kC fk1 A133 n134 c135)).toArray),(J ((Ay fk0 (Bu 1)).1))])) Z) (zr 4 95 Z (by kernel_rfl) (H139.sel [2,3,4] (by decide) Z) (fun wq hq=>bB (vs:=[(.agg ((kC fk1 A133 n134 c135)).toArray),(J ((Ay fk0 (Bu 1)).1))]) (v:=(.agg ((kC fk1 A133 n134 c135)).toArray)) Z Z) (zr 5 127 Z (by kernel_rfl) (H139.sel [2,3,4] (by decide) Z) (fun wq hq=>bB (vs:=[(.agg ((kC fk1 A133 n134 c135)).toArray),(J ((Ay fk0 (Bu 1)).1))]) (v:=(J ((Ay fk0 (Bu 1)).1))) Z Z) (cO (i:=7) (by kernel_rfl) ?_)))
    refine ⟨_,255,rfl,by kernel_rfl,?_⟩
    refine bE (vs:=(kC fk1 A133 n134 c135)) (cs':=(kC fk1 A133 n134 c135)) sizeOf24 (H139.ob (i:=1) Z) Z Z Z Z Z Z ?_
    intro w141 hz142 g143 o144
    have H145:Sp [Ai 31 11 A133 n134 c135 (ents fk1.ents),Aa b122 24 (kC fk1 A133 n134 c135),Aa b24 24 (kC ((newK 9).2) none 0 0),Aa b6 24 (kC fk0 none 0 0),Bd w Bl] w141:=H139.setB (i:=1) rfl g143 o144 rfl
    have z146:=g143.size
    refine aM ?_
    refine ⟨(H145.sel [2,3,4] (by decide) Z),?_⟩
    refine zr 8 511 Z (by kernel_rfl) (H145.sel [2,3,4] (by decide) Z) (fun wq hq=>aY (v:=(J ((Ay fk0 (Bu 1)).1))) Z) (cQ (by kernel_rfl) (aQ ?_))
    exact ⟨(by repeat (first | exact aJ _ _ | exact aH _ _ | refine aI ?_ Z _)),b122,A133,n134,c135,rfl,rfl,(H145.sel [1,0,2,3,4] (by decide) Z)⟩
  ·rintro ρc68 w147 ho148 ⟨b54,A45,n46,c47,hs150,hs151,H149⟩
   obtain ⟨jc68,rfl⟩:=ho148.shape2 hs150 hs151
   clear ho148 hs150 hs151
   have z152:=(H149.fix (i:=4) rfl).size
   refine aQ (aD ?_)
   refine CW.mid (fun t=>(Nat.ble 7 t && Nat.ble t 8) || (Nat.ble 34 t && Nat.ble t 39)) (fun ρ wl => ∃ (b174:Nat) (A165:Option Addr) (n166:Nat) (c167:Nat),ρ 7 = (.pointer (some ⟨b174,0,none⟩))∧ρ 8 = (J ((Ay fk1 (Bu 2)).1))∧Sp [Aa b174 24 (kC fk2 A165 n166 c167),Ai 31 11 A165 n166 c167 (ents fk2.ents),Aa b54 24 (kC fk1 A45 n46 c47),Ai 31 11 A45 n46 c47 (ents fk1.ents),Aa b24 24 (kC ((newK 9).2) none 0 0),Aa b6 24 (kC fk0 none 0 0),Bd w Bl] wl) ?_ ?_
   ·refine cN (fun wq=>Sp [Aa b54 24 (kC fk1 A45 n46 c47),Ai 31 11 A45 n46 c47 (ents fk1.ents),Aa b24 24 (kC ((newK 9).2) none 0 0),Aa b6 24 (kC fk0 none 0 0),Bd w Bl] wq) Tryz.mixed Z ?_
    intro w188 g189
    have H190:=H149.grow g189
    have z191:=g189.size
    refine zr 0 1 Z (by kernel_rfl) H190 (fun wq hq=>bW Z (Aj (cs:=(kC fk1 A45 n46 c47)) Ct (hq.ob (i:=0) Z).cl)) ?_
    refine cP (i:=1) (j:=6) (by kernel_rfl) ?_ ?_
    ·refine ⟨_,3,rfl,by kernel_rfl,?_⟩
     refine aU call111 (laid15 _ 2) Z Z Z ?_
     rintro _ w192 ⟨rfl,g193⟩
     have H194:=H190.grow g193
     have z195:=g193.size
     refine aM ?_
     refine ⟨H194,?_⟩
     refine cP (i:=2) (j:=6) (by kernel_rfl) ?_ ?_
     ·refine ⟨_,7,rfl,by kernel_rfl,?_⟩
      have hfl196:fk1.ents.length ≤ 4000:=Dg fk0 (Bu 1)
      have hfi197:fk1.image.length ≤ fk0.image.length + (Bu 1).image.length:=Dk fk0 (Bu 1)
      have hl198:=H194.len (i:=1) rfl
      rw [Ap] at hl198
      have hc199:=H194.cap (i:=1) rfl
      refine aU call40 (Fold_ _ w192.heap.size fk1 A45 n46 c47 (H194.rowrd (i:=1) Z) (Nat.le_refl _) (by first | assumption | rfl | omega | decide +kernel) (by first | assumption | rfl | omega | decide +kernel) (by first | assumption | rfl | omega | decide +kernel) (by first | assumption | rfl | omega | decide +kernel) (Bu 2) none 0 0 ((Rd.nil_ _ _ 11 none)) (by first | assumption | rfl | omega | decide +kernel) (by first | assumption | rfl | omega | decide +kernel) (by first | assumption | rfl | omega | decide +kernel) (by first | assumption | rfl | omega | decide +kernel)) Z Z Z ?_
      rintro _ w203 ⟨A200,n201,c202,rfl,g204⟩
      have g205:=g204.fix (i:=1) rfl
      have H206:Sp [Ai 31 11 A200 n201 c202 (ents fk2.ents),Aa b54 24 (kC fk1 A45 n46 c47),Ai 31 11 A45 n46 c47 (ents fk1.ents),Aa b24 24 (kC ((newK 9).2) none 0 0),Aa b6 24 (kC fk0 none 0 0),Bd w Bl] w203:=H194.join (m:=[Ai 31 11 A200 n201 c202 (ents fk2.ents)]) g204
      have z207:=g205.size
      refine aM ?_
      refine ⟨(H206.sel [1,2,3,4,5] (by decide) Z),?_⟩
      refine zr 3 15 Z (by kernel_rfl) (H206.sel [1,2,3,4,5] (by decide) Z) (fun wq hq=>aX (v:=(.tuple #[(.agg ((kC fk2 A200 n201 c202)).toArray),(J ((Ay fk1 (Bu 2)).1))])) Z) (zr 4 31 Z (by kernel_rfl) (H206.sel [1,2,3,4,5] (by decide) Z) (fun wq hq=>bB (vs:=[(.agg ((kC fk2 A200 n201 c202)).toArray),(J ((Ay fk1 (Bu 2)).1))]) (v:=(.agg ((kC fk2 A200 n201 c202)).toArray)) Z Z) (zr 5 63 Z (by kernel_rfl) (H206.sel [1,2,3,4,5] (by decide) Z) (fun wq hq=>bB (vs:=[(.agg ((kC fk2 A200 n201 c202)).toArray),(J ((Ay fk1 (Bu 2)).1))]) (v:=(J ((Ay fk1 (Bu 2)).1))) Z Z) (cO (i:=6) (by kernel_rfl) ?_)))
      refine ⟨_,127,rfl,by kernel_rfl,?_⟩
      refine bG (cs:=[(J 0),(J 0),(J 0),(.string (⟨#[]⟩)),(.slice none 0 0)]) zeroValue24 Z Z Z ?_
      intro w208 b209 hb210 hz211 g212 o213
      have H214:=H206.newB g212 o213 (by omega)
      have z215:=g212.size
      refine aM ?_
      refine ⟨(H214.sel [2,3,4,5,6] (by decide) Z),?_⟩
      refine cO (i:=7) (by kernel_rfl) ?_
      refine ⟨_,255,rfl,by kernel_rfl,?_⟩
      refine bE (vs:=(kC fk2 A200 n201 c202)) (cs':=(kC fk2 A200 n201 c202)) sizeOf24 (H214.ob (i:=0) Z) Z Z Z Z Z Z ?_
      intro w216 hz217 g218 o219
      have H220:Sp [Aa b209 24 (kC fk2 A200 n201 c202),Ai 31 11 A200 n201 c202 (ents fk2.ents),Aa b54 24 (kC fk1 A45 n46 c47),Ai 31 11 A45 n46 c47 (ents fk1.ents),Aa b24 24 (kC ((newK 9).2) none 0 0),Aa b6 24 (kC fk0 none 0 0),Bd w Bl] w216:=H214.setB (i:=0) rfl g218 o219 rfl
      have z221:=g218.size
      refine aM ?_
      refine ⟨(H220.sel [2,3,4,5,6] (by decide) Z),?_⟩
      refine zr 8 511 Z (by kernel_rfl) (H220.sel [2,3,4,5,6] (by decide) Z) (fun wq hq=>aY (v:=(J ((Ay fk1 (Bu 2)).1))) Z) (cQ (by kernel_rfl) (aQ ?_))
      exact ⟨(by repeat (first | exact aJ _ _ | exact aH _ _ | refine aI ?_ Z _)),b209,A200,n201,c202,rfl,rfl,(H220.sel [0,1,2,3,4,5,6] (by decide) Z)⟩
     ·refine ⟨_,67,rfl,by kernel_rfl,?_⟩
      refine bG (cs:=[(J 0),(J 0),(J 0),(.string (⟨#[]⟩)),(.slice none 0 0)]) zeroValue24 Z Z Z ?_
      intro w222 b223 hb224 hz225 g226 o227
      have H228:=H194.newB g226 o227 (by omega)
      have z229:=g226.size
      refine aM ?_
      refine ⟨(H228.sel [1,2,3,4,5] (by decide) Z),?_⟩
      refine cO (i:=2) (by kernel_rfl) ?_
      refine ⟨_,71,rfl,by kernel_rfl,?_⟩
      have hfl230:fk1.ents.length ≤ 4000:=Dg fk0 (Bu 1)
      have hfi231:fk1.image.length ≤ fk0.image.length + (Bu 1).image.length:=Dk fk0 (Bu 1)
      have hl232:=H228.len (i:=2) rfl
      rw [Ap] at hl232
      have hc233:=H228.cap (i:=2) rfl
      refine aU call40 (Fold_ _ w222.heap.size fk1 A45 n46 c47 (H228.rowrd (i:=2) Z) (Nat.le_refl _) (by first | assumption | rfl | omega | decide +kernel) (by first | assumption | rfl | omega | decide +kernel) (by first | assumption | rfl | omega | decide +kernel) (by first | assumption | rfl | omega | decide +kernel) (Bu 2) none 0 0 ((Rd.nil_ _ _ 11 none)) (by first | assumption | rfl | omega | decide +kernel) (by first | assumption | rfl | omega | decide +kernel) (by first | assumption | rfl | omega | decide +kernel) (by first | assumption | rfl | omega | decide +kernel)) Z Z Z ?_
      rintro _ w237 ⟨A234,n235,c236,rfl,g238⟩
      have g239:=g238.fix (i:=1) rfl
      have H240:Sp [Ai 31 11 A234 n235 c236 (ents fk2.ents),Aa b223 24 [(J 0),(J 0),(J 0),(.string (⟨#[]⟩)),(.slice none 0 0)],Aa b54 24 (kC fk1 A45 n46 c47),Ai 31 11 A45 n46 c47 (ents fk1.ents),Aa b24 24 (kC ((newK 9).2) none 0 0),Aa b6 24 (kC fk0 none 0 0),Bd w Bl] w237:=H228.join (m:=[Ai 31 11 A234 n235 c236 (ents fk2.ents)]) g238
      have z241:=g239.size
      refine aM ?_
      refine ⟨(H240.sel [2,3,4,5,6] (by decide) Z),?_⟩
      refine zr 3 79 Z (by kernel_rfl) (H240.sel [2,3,4,5,6] (by decide) Z) (fun wq hq=>aX (v:=(.tuple #[(.agg ((kC fk2 A234 n235 c236)).toArray),(J ((Ay fk1 (Bu 2)).1))])) Z) (zr 4 95 Z (by kernel_rfl) (H240.sel [2,3,4,5,6] (by decide) Z) (fun wq hq=>bB (vs:=[(.agg ((kC fk2 A234 n235 c236)).toArray),(J ((Ay fk1 (Bu 2)).1))]) (v:=(.agg ((kC fk2 A234 n235 c236)).toArray)) Z Z) (zr 5 127 Z (by kernel_rfl) (H240.sel [2,3,4,5,6] (by decide) Z) (fun wq hq=>bB (vs:=[(.agg ((kC fk2 A234 n235 c236)).toArray),(J ((Ay fk1 (Bu 2)).1))]) (v:=(J ((Ay fk1 (Bu 2)).1))) Z Z) (cO (i:=7) (by kernel_rfl) ?_)))
      refine ⟨_,255,rfl,by kernel_rfl,?_⟩
      refine bE (vs:=(kC fk2 A234 n235 c236)) (cs':=(kC fk2 A234 n235 c236)) sizeOf24 (H240.ob (i:=1) Z) Z Z Z Z Z Z ?_
      intro w242 hz243 g244 o245
      have H246:Sp [Ai 31 11 A234 n235 c236 (ents fk2.ents),Aa b223 24 (kC fk2 A234 n235 c236),Aa b54 24 (kC fk1 A45 n46 c47),Ai 31 11 A45 n46 c47 (ents fk1.ents),Aa b24 24 (kC ((newK 9).2) none 0 0),Aa b6 24 (kC fk0 none 0 0),Bd w Bl] w242:=H240.setB (i:=1) rfl g244 o245 rfl
      have z247:=g244.size
      refine aM ?_
      refine ⟨(H246.sel [2,3,4,5,6] (by decide) Z),?_⟩
      refine zr 8 511 Z (by kernel_rfl) (H246.sel [2,3,4,5,6] (by decide) Z) (fun wq hq=>aY (v:=(J ((Ay fk1 (Bu 2)).1))) Z) (cQ (by kernel_rfl) (aQ ?_))
      exact ⟨(by repeat (first | exact aJ _ _ | exact aH _ _ | refine aI ?_ Z _)),b223,A234,n235,c236,rfl,rfl,(H246.sel [1,0,2,3,4,5,6] (by decide) Z)⟩
    ·refine ⟨_,65,rfl,by kernel_rfl,?_⟩
     refine bG (cs:=[(J 0),(J 0),(J 0),(.string (⟨#[]⟩)),(.slice none 0 0)]) zeroValue24 Z Z Z ?_
     intro w248 b249 hb250 hz251 g252 o253
     have H254:=H190.newB g252 o253 (by omega)
     have z255:=g252.size
     refine aM ?_
     refine ⟨(H254.sel [1,2,3,4,5] (by decide) Z),?_⟩
     refine cO (i:=1) (by kernel_rfl) ?_
     refine ⟨_,67,rfl,by kernel_rfl,?_⟩
     refine aU call111 (laid15 _ 2) Z Z Z ?_
     rintro _ w256 ⟨rfl,g257⟩
     have H258:=H254.grow g257
     have z259:=g257.size
     refine aM ?_
     refine ⟨(H258.sel [1,2,3,4,5] (by decide) Z),?_⟩
     refine cO (i:=2) (by kernel_rfl) ?_
     refine ⟨_,71,rfl,by kernel_rfl,?_⟩
     have hfl260:fk1.ents.length ≤ 4000:=Dg fk0 (Bu 1)
     have hfi261:fk1.image.length ≤ fk0.image.length + (Bu 1).image.length:=Dk fk0 (Bu 1)
     have hl262:=H258.len (i:=2) rfl
     rw [Ap] at hl262
     have hc263:=H258.cap (i:=2) rfl
     refine aU call40 (Fold_ _ w256.heap.size fk1 A45 n46 c47 (H258.rowrd (i:=2) Z) (Nat.le_refl _) (by first | assumption | rfl | omega | decide +kernel) (by first | assumption | rfl | omega | decide +kernel) (by first | assumption | rfl | omega | decide +kernel) (by first | assumption | rfl | omega | decide +kernel) (Bu 2) none 0 0 ((Rd.nil_ _ _ 11 none)) (by first | assumption | rfl | omega | decide +kernel) (by first | assumption | rfl | omega | decide +kernel) (by first | assumption | rfl | omega | decide +kernel) (by first | assumption | rfl | omega | decide +kernel)) Z Z Z ?_
     rintro _ w267 ⟨A264,n265,c266,rfl,g268⟩
     have g269:=g268.fix (i:=1) rfl
     have H270:Sp [Ai 31 11 A264 n265 c266 (ents fk2.ents),Aa b249 24 [(J 0),(J 0),(J 0),(.string (⟨#[]⟩)),(.slice none 0 0)],Aa b54 24 (kC fk1 A45 n46 c47),Ai 31 11 A45 n46 c47 (ents fk1.ents),Aa b24 24 (kC ((newK 9).2) none 0 0),Aa b6 24 (kC fk0 none 0 0),Bd w Bl] w267:=H258.join (m:=[Ai 31 11 A264 n265 c266 (ents fk2.ents)]) g268
     have z271:=g269.size
     refine aM ?_
     refine ⟨(H270.sel [2,3,4,5,6] (by decide) Z),?_⟩
     refine zr 3 79 Z (by kernel_rfl) (H270.sel [2,3,4,5,6] (by decide) Z) (fun wq hq=>aX (v:=(.tuple #[(.agg ((kC fk2 A264 n265 c266)).toArray),(J ((Ay fk1 (Bu 2)).1))])) Z) (zr 4 95 Z (by kernel_rfl) (H270.sel [2,3,4,5,6] (by decide) Z) (fun wq hq=>bB (vs:=[(.agg ((kC fk2 A264 n265 c266)).toArray),(J ((Ay fk1 (Bu 2)).1))]) (v:=(.agg ((kC fk2 A264 n265 c266)).toArray)) Z Z) (zr 5 127 Z (by kernel_rfl) (H270.sel [2,3,4,5,6] (by decide) Z) (fun wq hq=>bB (vs:=[(.agg ((kC fk2 A264 n265 c266)).toArray),(J ((Ay fk1 (Bu 2)).1))]) (v:=(J ((Ay fk1 (Bu 2)).1))) Z Z) (cO (i:=7) (by kernel_rfl) ?_)))
     refine ⟨_,255,rfl,by kernel_rfl,?_⟩
     refine bE (vs:=(kC fk2 A264 n265 c266)) (cs':=(kC fk2 A264 n265 c266)) sizeOf24 (H270.ob (i:=1) Z) Z Z Z Z Z Z ?_
     intro w272 hz273 g274 o275
     have H276:Sp [Ai 31 11 A264 n265 c266 (ents fk2.ents),Aa b249 24 (kC fk2 A264 n265 c266),Aa b54 24 (kC fk1 A45 n46 c47),Ai 31 11 A45 n46 c47 (ents fk1.ents),Aa b24 24 (kC ((newK 9).2) none 0 0),Aa b6 24 (kC fk0 none 0 0),Bd w Bl] w272:=H270.setB (i:=1) rfl g274 o275 rfl
     have z277:=g274.size
     refine aM ?_
     refine ⟨(H276.sel [2,3,4,5,6] (by decide) Z),?_⟩
     refine zr 8 511 Z (by kernel_rfl) (H276.sel [2,3,4,5,6] (by decide) Z) (fun wq hq=>aY (v:=(J ((Ay fk1 (Bu 2)).1))) Z) (cQ (by kernel_rfl) (aQ ?_))
     exact ⟨(by repeat (first | exact aJ _ _ | exact aH _ _ | refine aI ?_ Z _)),b249,A264,n265,c266,rfl,rfl,(H276.sel [1,0,2,3,4,5,6] (by decide) Z)⟩
   ·rintro ρc187 w278 ho279 ⟨b174,A165,n166,c167,hs281,hs282,H280⟩
    obtain ⟨jc187,rfl⟩:=ho279.shape2 hs281 hs282
    clear ho279 hs281 hs282
    have z283:=(H280.fix (i:=6) rfl).size
    refine aQ (aD ?_)
    have H284:Sp [Aa b174 24 (kC fk2 A165 n166 c167),Ai 31 11 A165 n166 c167 (ents fk2.ents),Aa b6 24 (kC fk0 none 0 0),Bd w Bl] w278:=(H280.sel [0,1,5,6] (by decide) rfl)
    refine CW.mid (fun t=>(Nat.ble 9 t && Nat.ble t 10) || (Nat.ble 40 t && Nat.ble t 45)) (fun ρ wl=>ρ 10 = (J ((Ay fk2 (Bu 4)).1))∧Sp [Aa b174 24 (kC fk2 A165 n166 c167),Ai 31 11 A165 n166 c167 (ents fk2.ents),Aa b6 24 (kC fk0 none 0 0),Bd w Bl] wl) ?_ ?_
    ·refine cN (fun wq=>Sp [Aa b174 24 (kC fk2 A165 n166 c167),Ai 31 11 A165 n166 c167 (ents fk2.ents),Aa b6 24 (kC fk0 none 0 0),Bd w Bl] wq) Tryz.mixed Z ?_
     intro w320 g321
     have H322:=H284.grow g321
     have z323:=g321.size
     refine zr 0 1 Z (by kernel_rfl) H322 (fun wq hq=>bW Z (Aj (cs:=(kC fk2 A165 n166 c167)) Ct (hq.ob (i:=0) Z).cl)) ?_
     refine cP (i:=1) (j:=6) (by kernel_rfl) ?_ ?_
     ·refine ⟨_,3,rfl,by kernel_rfl,?_⟩
      refine aU call111 (laid15 _ 4) Z Z Z ?_
      rintro _ w324 ⟨rfl,g325⟩
      have H326:=H322.grow g325
      have z327:=g325.size
      refine aM ?_
      refine ⟨H326,?_⟩
      refine cP (i:=2) (j:=6) (by kernel_rfl) ?_ ?_
      ·refine ⟨_,7,rfl,by kernel_rfl,?_⟩
       have hfl328:fk2.ents.length ≤ 4000:=Dg fk1 (Bu 2)
       have hfi329:fk2.image.length ≤ fk1.image.length + (Bu 2).image.length:=Dk fk1 (Bu 2)
       have hl330:=H326.len (i:=1) rfl
       rw [Ap] at hl330
       have hc331:=H326.cap (i:=1) rfl
       refine aU call40 (Fold_ _ w324.heap.size fk2 A165 n166 c167 (H326.rowrd (i:=1) Z) (Nat.le_refl _) (by first | assumption | rfl | omega | decide +kernel) (by first | assumption | rfl | omega | decide +kernel) (by first | assumption | rfl | omega | decide +kernel) (by first | assumption | rfl | omega | decide +kernel) (Bu 4) none 0 0 ((Rd.nil_ _ _ 11 none)) (by first | assumption | rfl | omega | decide +kernel) (by first | assumption | rfl | omega | decide +kernel) (by first | assumption | rfl | omega | decide +kernel) (by first | assumption | rfl | omega | decide +kernel)) Z Z Z ?_
       rintro _ w335 ⟨A332,n333,c334,rfl,g336⟩
       have g337:=g336.fix (i:=1) rfl
       have H338:Sp [Ai 31 11 A332 n333 c334 (ents fkL.ents),Aa b174 24 (kC fk2 A165 n166 c167),Ai 31 11 A165 n166 c167 (ents fk2.ents),Aa b6 24 (kC fk0 none 0 0),Bd w Bl] w335:=H326.join (m:=[Ai 31 11 A332 n333 c334 (ents fkL.ents)]) g336
       have z339:=g337.size
       refine aM ?_
       refine ⟨(H338.sel [1,2,3,4] (by decide) Z),?_⟩
       refine zr 3 15 Z (by kernel_rfl) (H338.sel [1,2,3,4] (by decide) Z) (fun wq hq=>aX (v:=(.tuple #[(.agg ((kC fkL A332 n333 c334)).toArray),(J ((Ay fk2 (Bu 4)).1))])) Z) (zr 4 31 Z (by kernel_rfl) (H338.sel [1,2,3,4] (by decide) Z) (fun wq hq=>bB (vs:=[(.agg ((kC fkL A332 n333 c334)).toArray),(J ((Ay fk2 (Bu 4)).1))]) (v:=(.agg ((kC fkL A332 n333 c334)).toArray)) Z Z) (zr 5 63 Z (by kernel_rfl) (H338.sel [1,2,3,4] (by decide) Z) (fun wq hq=>bB (vs:=[(.agg ((kC fkL A332 n333 c334)).toArray),(J ((Ay fk2 (Bu 4)).1))]) (v:=(J ((Ay fk2 (Bu 4)).1))) Z Z) (cO (i:=6) (by kernel_rfl) ?_)))
       refine ⟨_,127,rfl,by kernel_rfl,?_⟩
       refine bG (cs:=[(J 0),(J 0),(J 0),(.string (⟨#[]⟩)),(.slice none 0 0)]) zeroValue24 Z Z Z ?_
       intro w340 b341 hb342 hz343 g344 o345
       have H346:=H338.newB g344 o345 (by omega)
       have z347:=g344.size
       refine aM ?_
       refine ⟨(H346.sel [2,3,4,5] (by decide) Z),?_⟩
       refine cO (i:=7) (by kernel_rfl) ?_
       refine ⟨_,255,rfl,by kernel_rfl,?_⟩
       refine bE (vs:=(kC fkL A332 n333 c334)) (cs':=(kC fkL A332 n333 c334)) sizeOf24 (H346.ob (i:=0) Z) Z Z Z Z Z Z ?_
       intro w348 hz349 g350 o351
       have H352:Sp [Aa b341 24 (kC fkL A332 n333 c334),Ai 31 11 A332 n333 c334 (ents fkL.ents),Aa b174 24 (kC fk2 A165 n166 c167),Ai 31 11 A165 n166 c167 (ents fk2.ents),Aa b6 24 (kC fk0 none 0 0),Bd w Bl] w348:=H346.setB (i:=0) rfl g350 o351 rfl
       have z353:=g350.size
       refine aM ?_
       refine ⟨(H352.sel [2,3,4,5] (by decide) Z),?_⟩
       refine zr 8 511 Z (by kernel_rfl) (H352.sel [2,3,4,5] (by decide) Z) (fun wq hq=>aY (v:=(J ((Ay fk2 (Bu 4)).1))) Z) (cQ (by kernel_rfl) (aQ ?_))
       exact ⟨(by repeat (first | exact aJ _ _ | exact aH _ _ | refine aI ?_ Z _)),rfl,(H352.sel [2,3,4,5] (by decide) Z)⟩
      ·refine ⟨_,67,rfl,by kernel_rfl,?_⟩
       refine bG (cs:=[(J 0),(J 0),(J 0),(.string (⟨#[]⟩)),(.slice none 0 0)]) zeroValue24 Z Z Z ?_
       intro w354 b355 hb356 hz357 g358 o359
       have H360:=H326.newB g358 o359 (by omega)
       have z361:=g358.size
       refine aM ?_
       refine ⟨(H360.sel [1,2,3,4] (by decide) Z),?_⟩
       refine cO (i:=2) (by kernel_rfl) ?_
       refine ⟨_,71,rfl,by kernel_rfl,?_⟩
       have hfl362:fk2.ents.length ≤ 4000:=Dg fk1 (Bu 2)
       have hfi363:fk2.image.length ≤ fk1.image.length + (Bu 2).image.length:=Dk fk1 (Bu 2)
       have hl364:=H360.len (i:=2) rfl
       rw [Ap] at hl364
       have hc365:=H360.cap (i:=2) rfl
       refine aU call40 (Fold_ _ w354.heap.size fk2 A165 n166 c167 (H360.rowrd (i:=2) Z) (Nat.le_refl _) (by first | assumption | rfl | omega | decide +kernel) (by first | assumption | rfl | omega | decide +kernel) (by first | assumption | rfl | omega | decide +kernel) (by first | assumption | rfl | omega | decide +kernel) (Bu 4) none 0 0 ((Rd.nil_ _ _ 11 none)) (by first | assumption | rfl | omega | decide +kernel) (by first | assumption | rfl | omega | decide +kernel) (by first | assumption | rfl | omega | decide +kernel) (by first | assumption | rfl | omega | decide +kernel)) Z Z Z ?_
       rintro _ w369 ⟨A366,n367,c368,rfl,g370⟩
       have g371:=g370.fix (i:=1) rfl
       have H372:Sp [Ai 31 11 A366 n367 c368 (ents fkL.ents),Aa b355 24 [(J 0),(J 0),(J 0),(.string (⟨#[]⟩)),(.slice none 0 0)],Aa b174 24 (kC fk2 A165 n166 c167),Ai 31 11 A165 n166 c167 (ents fk2.ents),Aa b6 24 (kC fk0 none 0 0),Bd w Bl] w369:=H360.join (m:=[Ai 31 11 A366 n367 c368 (ents fkL.ents)]) g370
       have z373:=g371.size
       refine aM ?_
       refine ⟨(H372.sel [2,3,4,5] (by decide) Z),?_⟩
       refine zr 3 79 Z (by kernel_rfl) (H372.sel [2,3,4,5] (by decide) Z) (fun wq hq=>aX (v:=(.tuple #[(.agg ((kC fkL A366 n367 c368)).toArray),(J ((Ay fk2 (Bu 4)).1))])) Z) (zr 4 95 Z (by kernel_rfl) (H372.sel [2,3,4,5] (by decide) Z) (fun wq hq=>bB (vs:=[(.agg ((kC fkL A366 n367 c368)).toArray),(J ((Ay fk2 (Bu 4)).1))]) (v:=(.agg ((kC fkL A366 n367 c368)).toArray)) Z Z) (zr 5 127 Z (by kernel_rfl) (H372.sel [2,3,4,5] (by decide) Z) (fun wq hq=>bB (vs:=[(.agg ((kC fkL A366 n367 c368)).toArray),(J ((Ay fk2 (Bu 4)).1))]) (v:=(J ((Ay fk2 (Bu 4)).1))) Z Z) (cO (i:=7) (by kernel_rfl) ?_)))
       refine ⟨_,255,rfl,by kernel_rfl,?_⟩
       refine bE (vs:=(kC fkL A366 n367 c368)) (cs':=(kC fkL A366 n367 c368)) sizeOf24 (H372.ob (i:=1) Z) Z Z Z Z Z Z ?_
       intro w374 hz375 g376 o377
       have H378:Sp [Ai 31 11 A366 n367 c368 (ents fkL.ents),Aa b355 24 (kC fkL A366 n367 c368),Aa b174 24 (kC fk2 A165 n166 c167),Ai 31 11 A165 n166 c167 (ents fk2.ents),Aa b6 24 (kC fk0 none 0 0),Bd w Bl] w374:=H372.setB (i:=1) rfl g376 o377 rfl
       have z379:=g376.size
       refine aM ?_
       refine ⟨(H378.sel [2,3,4,5] (by decide) Z),?_⟩
       refine zr 8 511 Z (by kernel_rfl) (H378.sel [2,3,4,5] (by decide) Z) (fun wq hq=>aY (v:=(J ((Ay fk2 (Bu 4)).1))) Z) (cQ (by kernel_rfl) (aQ ?_))
       exact ⟨(by repeat (first | exact aJ _ _ | exact aH _ _ | refine aI ?_ Z _)),rfl,(H378.sel [2,3,4,5] (by decide) Z)⟩
     ·refine ⟨_,65,rfl,by kernel_rfl,?_⟩
      refine bG (cs:=[(J 0),(J 0),(J 0),(.string (⟨#[]⟩)),(.slice none 0 0)]) zeroValue24 Z Z Z ?_
      intro w380 b381 hb382 hz383 g384 o385
      have H386:=H322.newB g384 o385 (by omega)
      have z387:=g384.size
      refine aM ?_
      refine ⟨(H386.sel [1,2,3,4] (by decide) Z),?_⟩
      refine cO (i:=1) (by kernel_rfl) ?_
      refine ⟨_,67,rfl,by kernel_rfl,?_⟩
      refine aU call111 (laid15 _ 4) Z Z Z ?_
      rintro _ w388 ⟨rfl,g389⟩
      have H390:=H386.grow g389
      have z391:=g389.size
      refine aM ?_
      refine ⟨(H390.sel [1,2,3,4] (by decide) Z),?_⟩
      refine cO (i:=2) (by kernel_rfl) ?_
      refine ⟨_,71,rfl,by kernel_rfl,?_⟩
      have hfl392:fk2.ents.length ≤ 4000:=Dg fk1 (Bu 2)
      have hfi393:fk2.image.length ≤ fk1.image.length + (Bu 2).image.length:=Dk fk1 (Bu 2)
      have hl394:=H390.len (i:=2) rfl
      rw [Ap] at hl394
      have hc395:=H390.cap (i:=2) rfl
      refine aU call40 (Fold_ _ w388.heap.size fk2 A165 n166 c167 (H390.rowrd (i:=2) Z) (Nat.le_refl _) (by first | assumption | rfl | omega | decide +kernel) (by first | assumption | rfl | omega | decide +kernel) (by first | assumption | rfl | omega | decide +kernel) (by first | assumption | rfl | omega | decide +kernel) (Bu 4) none 0 0 ((Rd.nil_ _ _ 11 none)) (by first | assumption | rfl | omega | decide +kernel) (by first | assumption | rfl | omega | decide +kernel) (by first | assumption | rfl | omega | decide +kernel) (by first | assumption | rfl | omega | decide +kernel)) Z Z Z ?_
      rintro _ w399 ⟨A396,n397,c398,rfl,g400⟩
      have g401:=g400.fix (i:=1) rfl
      have H402:Sp [Ai 31 11 A396 n397 c398 (ents fkL.ents),Aa b381 24 [(J 0),(J 0),(J 0),(.string (⟨#[]⟩)),(.slice none 0 0)],Aa b174 24 (kC fk2 A165 n166 c167),Ai 31 11 A165 n166 c167 (ents fk2.ents),Aa b6 24 (kC fk0 none 0 0),Bd w Bl] w399:=H390.join (m:=[Ai 31 11 A396 n397 c398 (ents fkL.ents)]) g400
      have z403:=g401.size
      refine aM ?_
      refine ⟨(H402.sel [2,3,4,5] (by decide) Z),?_⟩
      refine zr 3 79 Z (by kernel_rfl) (H402.sel [2,3,4,5] (by decide) Z) (fun wq hq=>aX (v:=(.tuple #[(.agg ((kC fkL A396 n397 c398)).toArray),(J ((Ay fk2 (Bu 4)).1))])) Z) (zr 4 95 Z (by kernel_rfl) (H402.sel [2,3,4,5] (by decide) Z) (fun wq hq=>bB (vs:=[(.agg ((kC fkL A396 n397 c398)).toArray),(J ((Ay fk2 (Bu 4)).1))]) (v:=(.agg ((kC fkL A396 n397 c398)).toArray)) Z Z) (zr 5 127 Z (by kernel_rfl) (H402.sel [2,3,4,5] (by decide) Z) (fun wq hq=>bB (vs:=[(.agg ((kC fkL A396 n397 c398)).toArray),(J ((Ay fk2 (Bu 4)).1))]) (v:=(J ((Ay fk2 (Bu 4)).1))) Z Z) (cO (i:=7) (by kernel_rfl) ?_)))
      refine ⟨_,255,rfl,by kernel_rfl,?_⟩
      refine bE (vs:=(kC fkL A396 n397 c398)) (cs':=(kC fkL A396 n397 c398)) sizeOf24 (H402.ob (i:=1) Z) Z Z Z Z Z Z ?_
      intro w404 hz405 g406 o407
      have H408:Sp [Ai 31 11 A396 n397 c398 (ents fkL.ents),Aa b381 24 (kC fkL A396 n397 c398),Aa b174 24 (kC fk2 A165 n166 c167),Ai 31 11 A165 n166 c167 (ents fk2.ents),Aa b6 24 (kC fk0 none 0 0),Bd w Bl] w404:=H402.setB (i:=1) rfl g406 o407 rfl
      have z409:=g406.size
      refine aM ?_
      refine ⟨(H408.sel [2,3,4,5] (by decide) Z),?_⟩
      refine zr 8 511 Z (by kernel_rfl) (H408.sel [2,3,4,5] (by decide) Z) (fun wq hq=>aY (v:=(J ((Ay fk2 (Bu 4)).1))) Z) (cQ (by kernel_rfl) (aQ ?_))
      exact ⟨(by repeat (first | exact aJ _ _ | exact aH _ _ | refine aI ?_ Z _)),rfl,(H408.sel [2,3,4,5] (by decide) Z)⟩
    ·rintro ρc319 w410 ho411 ⟨hs413,H412⟩
     obtain ⟨jc319,rfl⟩:=ho411.shape1 hs413
     clear ho411 hs413
     have z414:=(H412.fix (i:=3) rfl).size
     refine aQ (cT (zg Z (bW Z (Aj (cs:=(kC fk2 A165 n166 c167)) Ct (H412.ob (i:=0) Z).cl)) (zg Z (bY (cs:=[(J 1),(J 3),(J 0),(J 0),(.string (⟨#[]⟩)),(J 0),(J 0),(J 0),(J 0),(J 0),(J 0),(J 0),(J 0),(J 0),(J 0),(J 0),(.slice none 0 0)]) bd33 Z) ?_)))
     have hfl415:fk2.ents.length ≤ 4000:=Dg fk1 (Bu 2)
     have hfi416:fk2.image.length ≤ fk1.image.length + (Bu 2).image.length:=Dk fk1 (Bu 2)
     have hl417:=H412.len (i:=1) rfl
     rw [Ap] at hl417
     have hc418:=H412.cap (i:=1) rfl
     refine aU call40 (Fold_ _ w410.heap.size fk2 A165 n166 c167 (H412.rowrd (i:=1) Z) (Nat.le_refl _) (by first | assumption | rfl | omega | decide +kernel) (by first | assumption | rfl | omega | decide +kernel) (by first | assumption | rfl | omega | decide +kernel) (by first | assumption | rfl | omega | decide +kernel) recV none 0 0 ((Rd.nil_ _ _ 11 none)) (by first | assumption | rfl | omega | decide +kernel) (by first | assumption | rfl | omega | decide +kernel) (by first | assumption | rfl | omega | decide +kernel) (by first | assumption | rfl | omega | decide +kernel)) Z Z Z ?_
     rintro _ w422 ⟨A419,n420,c421,rfl,g423⟩
     have g424:=g423.fix (i:=1) rfl
     have H425:Sp [Ai 31 11 A419 n420 c421 (ents fkV.ents),Aa b174 24 (kC fk2 A165 n166 c167),Ai 31 11 A165 n166 c167 (ents fk2.ents),Aa b6 24 (kC fk0 none 0 0),Bd w Bl] w422:=H412.join (m:=[Ai 31 11 A419 n420 c421 (ents fkV.ents)]) g423
     have z426:=g424.size
     refine zm (.tuple #[(.agg ((kC fkV A419 n420 c421)).toArray),(J ((Ay fk2 recV).1))]) Z (zx (.agg ((kC fkV A419 n420 c421)).toArray) Z (zx (J ((Ay fk2 recV).1)) Z (bG (cs:=[(J 0),(J 0),(J 0),(.string (⟨#[]⟩)),(.slice none 0 0)]) zeroValue24 Z Z Z ?_)))
     intro w427 b428 hb429 hz430 g431 o432
     have H433:=H425.newB g431 o432 (by omega)
     have z434:=g431.size
     refine bE (vs:=(kC fkV A419 n420 c421)) (cs':=(kC fkV A419 n420 c421)) sizeOf24 (H433.ob (i:=0) Z) Z Z Z Z Z Z ?_
     intro w435 hz436 g437 o438
     have H439:Sp [Aa b428 24 (kC fkV A419 n420 c421),Ai 31 11 A419 n420 c421 (ents fkV.ents),Aa b174 24 (kC fk2 A165 n166 c167),Ai 31 11 A165 n166 c167 (ents fk2.ents),Aa b6 24 (kC fk0 none 0 0),Bd w Bl] w435:=H433.setB (i:=0) rfl g437 o438 rfl
     have z440:=g437.size
     refine za (J ((Ay fk2 recV).1)) Z (cS (cT (zg Z (bW Z (Aj (cs:=(kC fkV A419 n420 c421)) Ct (H439.ob (i:=0) Z).cl)) (zg Z (bY (cs:=[(J 1),(J 2),(J 0),(J 0),(.string (⟨#[]⟩)),(J 0),(J 0),(J 0),(J 0),(J 0),(J 0),(J 0),(J 0),(J 0),(J 0),(J 0),(.slice none 0 0)]) bd33 Z) ?_))))
     have hfl441:fkV.ents.length ≤ 4000:=Dg fk2 recV
     have hfi442:fkV.image.length ≤ fk2.image.length + recV.image.length:=Dk fk2 recV
     have hl443:=H439.len (i:=1) rfl
     rw [Ap] at hl443
     have hc444:=H439.cap (i:=1) rfl
     refine aU call40 (Fold_ _ w435.heap.size fkV A419 n420 c421 (H439.rowrd (i:=1) Z) (Nat.le_refl _) (by first | assumption | rfl | omega | decide +kernel) (by first | assumption | rfl | omega | decide +kernel) (by first | assumption | rfl | omega | decide +kernel) (by first | assumption | rfl | omega | decide +kernel) recU none 0 0 ((Rd.nil_ _ _ 11 none)) (by first | assumption | rfl | omega | decide +kernel) (by first | assumption | rfl | omega | decide +kernel) (by first | assumption | rfl | omega | decide +kernel) (by first | assumption | rfl | omega | decide +kernel)) Z Z Z ?_
     rintro _ w448 ⟨A445,n446,c447,rfl,g449⟩
     have g450:=g449.fix (i:=1) rfl
     have H451:Sp [Ai 31 11 A445 n446 c447 (ents ((Ay fkV recU).2.ents)),Aa b428 24 (kC fkV A419 n420 c421),Ai 31 11 A419 n420 c421 (ents fkV.ents),Aa b174 24 (kC fk2 A165 n166 c167),Ai 31 11 A165 n166 c167 (ents fk2.ents),Aa b6 24 (kC fk0 none 0 0),Bd w Bl] w448:=H439.join (m:=[Ai 31 11 A445 n446 c447 (ents ((Ay fkV recU).2.ents))]) g449
     have z452:=g450.size
     refine zm (.tuple #[(.agg ((kC ((Ay fkV recU).2) A445 n446 c447)).toArray),(J ((Ay fkV recU).1))]) Z (zx (.agg ((kC ((Ay fkV recU).2) A445 n446 c447)).toArray) Z (zx (J ((Ay fkV recU).1)) Z (bG (cs:=[(J 0),(J 0),(J 0),(.string (⟨#[]⟩)),(.slice none 0 0)]) zeroValue24 Z Z Z ?_)))
     intro w453 b454 hb455 hz456 g457 o458
     have H459:=H451.newB g457 o458 (by omega)
     have z460:=g457.size
     refine bE (vs:=(kC ((Ay fkV recU).2) A445 n446 c447)) (cs':=(kC ((Ay fkV recU).2) A445 n446 c447)) sizeOf24 (H459.ob (i:=0) Z) Z Z Z Z Z Z ?_
     intro w461 hz462 g463 o464
     have H465:Sp [Aa b454 24 (kC ((Ay fkV recU).2) A445 n446 c447),Ai 31 11 A445 n446 c447 (ents ((Ay fkV recU).2.ents)),Aa b428 24 (kC fkV A419 n420 c421),Ai 31 11 A419 n420 c421 (ents fkV.ents),Aa b174 24 (kC fk2 A165 n166 c167),Ai 31 11 A165 n166 c167 (ents fk2.ents),Aa b6 24 (kC fk0 none 0 0),Bd w Bl] w461:=H459.setB (i:=0) rfl g463 o464 rfl
     have z466:=g463.size
     refine za (J ((Ay fkV recU).1)) Z (cS (aD ?_))
     have H467:Sp [Aa b428 24 (kC fkV A419 n420 c421),Ai 31 11 A419 n420 c421 (ents fkV.ents),Aa b174 24 (kC fk2 A165 n166 c167),Ai 31 11 A165 n166 c167 (ents fk2.ents),Aa b6 24 (kC fk0 none 0 0),Bd w Bl] w461:=(H465.sel [2,3,4,5,6,7] (by decide) rfl)
     refine CW.mid (fun t=>(Nat.ble 15 t && Nat.ble t 16) || (Nat.ble 58 t && Nat.ble t 66)) (fun ρ wl => ∃ (b501:Nat) (A492:Option Addr) (n493:Nat) (c494:Nat),ρ 15 = (.pointer (some ⟨b501,0,none⟩))∧ρ 16 = (J ((Ay fkV recA).1))∧Sp [Aa b501 24 (kC fkA A492 n493 c494),Ai 31 11 A492 n493 c494 (ents fkA.ents),Aa b428 24 (kC fkV A419 n420 c421),Ai 31 11 A419 n420 c421 (ents fkV.ents),Aa b174 24 (kC fk2 A165 n166 c167),Ai 31 11 A165 n166 c167 (ents fk2.ents),Aa b6 24 (kC fk0 none 0 0),Bd w Bl] wl) ?_ ?_
     ·refine cN (fun wq=>Sp [Aa b428 24 (kC fkV A419 n420 c421),Ai 31 11 A419 n420 c421 (ents fkV.ents),Aa b174 24 (kC fk2 A165 n166 c167),Ai 31 11 A165 n166 c167 (ents fk2.ents),Aa b6 24 (kC fk0 none 0 0),Bd w Bl] wq) Tryz.mixed Z ?_
      intro w515 g516
      have H517:=H467.grow g516
      have z518:=g516.size
      refine zr 0 1 Z (by kernel_rfl) H517 (fun wq hq=>bW Z (Aj (cs:=(kC fkV A419 n420 c421)) Ct (hq.ob (i:=0) Z).cl)) ?_
      refine cP (i:=1) (j:=9) (by kernel_rfl) ?_ ?_
      ·refine ⟨_,3,rfl,by kernel_rfl,?_⟩
       refine aU call112 (entry15 _ 2) Z Z Z ?_
       rintro _ w519 ⟨rfl,g520⟩
       have H521:=H517.grow g520
       have z522:=g520.size
       refine aM ?_
       refine ⟨H521,?_⟩
       refine cP (i:=2) (j:=9) (by kernel_rfl) ?_ ?_
       ·refine ⟨_,7,rfl,by kernel_rfl,?_⟩
        refine aU call112 (entry15 _ 3) Z Z Z ?_
        rintro _ w523 ⟨rfl,g524⟩
        have H525:=H521.grow g524
        have z526:=g524.size
        refine aM ?_
        refine ⟨H525,?_⟩
        refine cP (i:=3) (j:=9) (by kernel_rfl) ?_ ?_
        ·refine ⟨_,15,rfl,by kernel_rfl,?_⟩
         refine cF (cs:=[(J 2),(J 0),(J 0),(J 0),(J 0),(J 0),(J 0),(J 0),(J 0),(J 0),(J 0),(J 3),(J 0),(J 0),(J 0),(J 0),(J 0),(J 0),(J 0),(J 0),(J 0),(J 0)]) underlying22 sizeOf31 ze22 Z Z Z (by decide) Z Z Z ?_
         intro w527 b528 hb529 hz530 g531 o532
         have H533:=H525.newB g531 o532 (by omega)
         have z534:=g531.size
         refine aM ?_
         refine ⟨(H533.sel [1,2,3,4,5,6] (by decide) Z),?_⟩
         refine zr 4 31 Z (by kernel_rfl) (H533.sel [1,2,3,4,5,6] (by decide) Z) (fun wq hq=>bY (cs:=[(J 3),(J 3),(J 1),(J 0),(.string (⟨#[]⟩)),(J 0),(J 0),(J 0),(J 0),(J 0),(J 0),(J 0),(J 0),(J 0),(J 0),(J 0),(.slice (some ⟨b528,0,none⟩) 2 2)]) bd33 Z) ?_
         refine cP (i:=5) (j:=9) (by kernel_rfl) ?_ ?_
         ·refine ⟨_,63,rfl,by kernel_rfl,?_⟩
          have hfl535:fkV.ents.length ≤ 4000:=Dg fk2 recV
          have hfi536:fkV.image.length ≤ fk2.image.length + recV.image.length:=Dk fk2 recV
          have hl537:=H533.len (i:=2) rfl
          rw [Ap] at hl537
          have hc538:=H533.cap (i:=2) rfl
          refine aU call40 (Fold_ _ w527.heap.size fkV A419 n420 c421 (H533.rowrd (i:=2) Z) (Nat.le_refl _) (by first | assumption | rfl | omega | decide +kernel) (by first | assumption | rfl | omega | decide +kernel) (by first | assumption | rfl | omega | decide +kernel) (by first | assumption | rfl | omega | decide +kernel) recA (some ⟨b528,0,none⟩) 2 2 ((Ob.rdL (xss:=ents [(⟨2,0,0,0,⟨0,0,0,0,0,0,0⟩⟩:Entry),(⟨3,0,0,0,⟨0,0,0,0,0,0,0⟩⟩:Entry)]) (H533.ob (i:=0) Z) Z (ents_k _)).more (by omega)) (by first | assumption | rfl | omega | decide +kernel) (by first | assumption | rfl | omega | decide +kernel) (by first | assumption | rfl | omega | decide +kernel) (by first | assumption | rfl | omega | decide +kernel)) Z Z Z ?_
          rintro _ w542 ⟨A539,n540,c541,rfl,g543⟩
          have g544:=g543.fix (i:=1) rfl
          have H545:Sp [Ai 31 11 A539 n540 c541 (ents fkA.ents),Aa b528 31 [(J 2),(J 0),(J 0),(J 0),(J 0),(J 0),(J 0),(J 0),(J 0),(J 0),(J 0),(J 3),(J 0),(J 0),(J 0),(J 0),(J 0),(J 0),(J 0),(J 0),(J 0),(J 0)],Aa b428 24 (kC fkV A419 n420 c421),Ai 31 11 A419 n420 c421 (ents fkV.ents),Aa b174 24 (kC fk2 A165 n166 c167),Ai 31 11 A165 n166 c167 (ents fk2.ents),Aa b6 24 (kC fk0 none 0 0),Bd w Bl] w542:=H533.join (m:=[Ai 31 11 A539 n540 c541 (ents fkA.ents)]) g543
          have z546:=g544.size
          refine aM ?_
          refine ⟨(H545.sel [2,3,4,5,6,7] (by decide) Z),?_⟩
          refine zr 6 127 Z (by kernel_rfl) (H545.sel [2,3,4,5,6,7] (by decide) Z) (fun wq hq=>aX (v:=(.tuple #[(.agg ((kC fkA A539 n540 c541)).toArray),(J ((Ay fkV recA).1))])) Z) (zr 7 255 Z (by kernel_rfl) (H545.sel [2,3,4,5,6,7] (by decide) Z) (fun wq hq=>bB (vs:=[(.agg ((kC fkA A539 n540 c541)).toArray),(J ((Ay fkV recA).1))]) (v:=(.agg ((kC fkA A539 n540 c541)).toArray)) Z Z) (zr 8 511 Z (by kernel_rfl) (H545.sel [2,3,4,5,6,7] (by decide) Z) (fun wq hq=>bB (vs:=[(.agg ((kC fkA A539 n540 c541)).toArray),(J ((Ay fkV recA).1))]) (v:=(J ((Ay fkV recA).1))) Z Z) (cO (i:=9) (by kernel_rfl) ?_)))
          refine ⟨_,1023,rfl,by kernel_rfl,?_⟩
          refine bG (cs:=[(J 0),(J 0),(J 0),(.string (⟨#[]⟩)),(.slice none 0 0)]) zeroValue24 Z Z Z ?_
          intro w547 b548 hb549 hz550 g551 o552
          have H553:=H545.newB g551 o552 (by omega)
          have z554:=g551.size
          refine aM ?_
          refine ⟨(H553.sel [3,4,5,6,7,8] (by decide) Z),?_⟩
          refine cO (i:=10) (by kernel_rfl) ?_
          refine ⟨_,2047,rfl,by kernel_rfl,?_⟩
          refine bE (vs:=(kC fkA A539 n540 c541)) (cs':=(kC fkA A539 n540 c541)) sizeOf24 (H553.ob (i:=0) Z) Z Z Z Z Z Z ?_
          intro w555 hz556 g557 o558
          have H559:Sp [Aa b548 24 (kC fkA A539 n540 c541),Ai 31 11 A539 n540 c541 (ents fkA.ents),Aa b528 31 [(J 2),(J 0),(J 0),(J 0),(J 0),(J 0),(J 0),(J 0),(J 0),(J 0),(J 0),(J 3),(J 0),(J 0),(J 0),(J 0),(J 0),(J 0),(J 0),(J 0),(J 0),(J 0)],Aa b428 24 (kC fkV A419 n420 c421),Ai 31 11 A419 n420 c421 (ents fkV.ents),Aa b174 24 (kC fk2 A165 n166 c167),Ai 31 11 A165 n166 c167 (ents fk2.ents),Aa b6 24 (kC fk0 none 0 0),Bd w Bl] w555:=H553.setB (i:=0) rfl g557 o558 rfl
          have z560:=g557.size
          refine aM ?_
          refine ⟨(H559.sel [3,4,5,6,7,8] (by decide) Z),?_⟩
          refine zr 11 4095 Z (by kernel_rfl) (H559.sel [3,4,5,6,7,8] (by decide) Z) (fun wq hq=>aY (v:=(J ((Ay fkV recA).1))) Z) (cQ (by kernel_rfl) (aQ ?_))
          exact ⟨(by repeat (first | exact aJ _ _ | exact aH _ _ | refine aI ?_ Z _)),b548,A539,n540,c541,rfl,rfl,(H559.sel [0,1,3,4,5,6,7,8] (by decide) Z)⟩
         ·refine ⟨_,543,rfl,by kernel_rfl,?_⟩
          refine bG (cs:=[(J 0),(J 0),(J 0),(.string (⟨#[]⟩)),(.slice none 0 0)]) zeroValue24 Z Z Z ?_
          intro w561 b562 hb563 hz564 g565 o566
          have H567:=H533.newB g565 o566 (by omega)
          have z568:=g565.size
          refine aM ?_
          refine ⟨(H567.sel [2,3,4,5,6,7] (by decide) Z),?_⟩
          refine cO (i:=5) (by kernel_rfl) ?_
          refine ⟨_,575,rfl,by kernel_rfl,?_⟩
          have hfl569:fkV.ents.length ≤ 4000:=Dg fk2 recV
          have hfi570:fkV.image.length ≤ fk2.image.length + recV.image.length:=Dk fk2 recV
          have hl571:=H567.len (i:=3) rfl
          rw [Ap] at hl571
          have hc572:=H567.cap (i:=3) rfl
          refine aU call40 (Fold_ _ w561.heap.size fkV A419 n420 c421 (H567.rowrd (i:=3) Z) (Nat.le_refl _) (by first | assumption | rfl | omega | decide +kernel) (by first | assumption | rfl | omega | decide +kernel) (by first | assumption | rfl | omega | decide +kernel) (by first | assumption | rfl | omega | decide +kernel) recA (some ⟨b528,0,none⟩) 2 2 ((Ob.rdL (xss:=ents [(⟨2,0,0,0,⟨0,0,0,0,0,0,0⟩⟩:Entry),(⟨3,0,0,0,⟨0,0,0,0,0,0,0⟩⟩:Entry)]) (H567.ob (i:=1) Z) Z (ents_k _)).more (by omega)) (by first | assumption | rfl | omega | decide +kernel) (by first | assumption | rfl | omega | decide +kernel) (by first | assumption | rfl | omega | decide +kernel) (by first | assumption | rfl | omega | decide +kernel)) Z Z Z ?_
          rintro _ w576 ⟨A573,n574,c575,rfl,g577⟩
          have g578:=g577.fix (i:=1) rfl
          have H579:Sp [Ai 31 11 A573 n574 c575 (ents fkA.ents),Aa b562 24 [(J 0),(J 0),(J 0),(.string (⟨#[]⟩)),(.slice none 0 0)],Aa b528 31 [(J 2),(J 0),(J 0),(J 0),(J 0),(J 0),(J 0),(J 0),(J 0),(J 0),(J 0),(J 3),(J 0),(J 0),(J 0),(J 0),(J 0),(J 0),(J 0),(J 0),(J 0),(J 0)],Aa b428 24 (kC fkV A419 n420 c421),Ai 31 11 A419 n420 c421 (ents fkV.ents),Aa b174 24 (kC fk2 A165 n166 c167),Ai 31 11 A165 n166 c167 (ents fk2.ents),Aa b6 24 (kC fk0 none 0 0),Bd w Bl] w576:=H567.join (m:=[Ai 31 11 A573 n574 c575 (ents fkA.ents)]) g577
          have z580:=g578.size
          refine aM ?_
          refine ⟨(H579.sel [3,4,5,6,7,8] (by decide) Z),?_⟩
          refine zr 6 639 Z (by kernel_rfl) (H579.sel [3,4,5,6,7,8] (by decide) Z) (fun wq hq=>aX (v:=(.tuple #[(.agg ((kC fkA A573 n574 c575)).toArray),(J ((Ay fkV recA).1))])) Z) (zr 7 767 Z (by kernel_rfl) (H579.sel [3,4,5,6,7,8] (by decide) Z) (fun wq hq=>bB (vs:=[(.agg ((kC fkA A573 n574 c575)).toArray),(J ((Ay fkV recA).1))]) (v:=(.agg ((kC fkA A573 n574 c575)).toArray)) Z Z) (zr 8 1023 Z (by kernel_rfl) (H579.sel [3,4,5,6,7,8] (by decide) Z) (fun wq hq=>bB (vs:=[(.agg ((kC fkA A573 n574 c575)).toArray),(J ((Ay fkV recA).1))]) (v:=(J ((Ay fkV recA).1))) Z Z) (cO (i:=10) (by kernel_rfl) ?_)))
          refine ⟨_,2047,rfl,by kernel_rfl,?_⟩
          refine bE (vs:=(kC fkA A573 n574 c575)) (cs':=(kC fkA A573 n574 c575)) sizeOf24 (H579.ob (i:=1) Z) Z Z Z Z Z Z ?_
          intro w581 hz582 g583 o584
          have H585:Sp [Ai 31 11 A573 n574 c575 (ents fkA.ents),Aa b562 24 (kC fkA A573 n574 c575),Aa b528 31 [(J 2),(J 0),(J 0),(J 0),(J 0),(J 0),(J 0),(J 0),(J 0),(J 0),(J 0),(J 3),(J 0),(J 0),(J 0),(J 0),(J 0),(J 0),(J 0),(J 0),(J 0),(J 0)],Aa b428 24 (kC fkV A419 n420 c421),Ai 31 11 A419 n420 c421 (ents fkV.ents),Aa b174 24 (kC fk2 A165 n166 c167),Ai 31 11 A165 n166 c167 (ents fk2.ents),Aa b6 24 (kC fk0 none 0 0),Bd w Bl] w581:=H579.setB (i:=1) rfl g583 o584 rfl
          have z586:=g583.size
          refine aM ?_
          refine ⟨(H585.sel [3,4,5,6,7,8] (by decide) Z),?_⟩
          refine zr 11 4095 Z (by kernel_rfl) (H585.sel [3,4,5,6,7,8] (by decide) Z) (fun wq hq=>aY (v:=(J ((Ay fkV recA).1))) Z) (cQ (by kernel_rfl) (aQ ?_))
          exact ⟨(by repeat (first | exact aJ _ _ | exact aH _ _ | refine aI ?_ Z _)),b562,A573,n574,c575,rfl,rfl,(H585.sel [1,0,3,4,5,6,7,8] (by decide) Z)⟩
        ·refine ⟨_,519,rfl,by kernel_rfl,?_⟩
         refine bG (cs:=[(J 0),(J 0),(J 0),(.string (⟨#[]⟩)),(.slice none 0 0)]) zeroValue24 Z Z Z ?_
         intro w587 b588 hb589 hz590 g591 o592
         have H593:=H525.newB g591 o592 (by omega)
         have z594:=g591.size
         refine aM ?_
         refine ⟨(H593.sel [1,2,3,4,5,6] (by decide) Z),?_⟩
         refine cO (i:=3) (by kernel_rfl) ?_
         refine ⟨_,527,rfl,by kernel_rfl,?_⟩
         refine cF (cs:=[(J 2),(J 0),(J 0),(J 0),(J 0),(J 0),(J 0),(J 0),(J 0),(J 0),(J 0),(J 3),(J 0),(J 0),(J 0),(J 0),(J 0),(J 0),(J 0),(J 0),(J 0),(J 0)]) underlying22 sizeOf31 ze22 Z Z Z (by decide) Z Z Z ?_
         intro w595 b596 hb597 hz598 g599 o600
         have H601:=H593.newB g599 o600 (by omega)
         have z602:=g599.size
         refine aM ?_
         refine ⟨(H601.sel [2,3,4,5,6,7] (by decide) Z),?_⟩
         refine zr 4 543 Z (by kernel_rfl) (H601.sel [2,3,4,5,6,7] (by decide) Z) (fun wq hq=>bY (cs:=[(J 3),(J 3),(J 1),(J 0),(.string (⟨#[]⟩)),(J 0),(J 0),(J 0),(J 0),(J 0),(J 0),(J 0),(J 0),(J 0),(J 0),(J 0),(.slice (some ⟨b596,0,none⟩) 2 2)]) bd33 Z) (cO (i:=5) (by kernel_rfl) ?_)
         refine ⟨_,575,rfl,by kernel_rfl,?_⟩
         have hfl603:fkV.ents.length ≤ 4000:=Dg fk2 recV
         have hfi604:fkV.image.length ≤ fk2.image.length + recV.image.length:=Dk fk2 recV
         have hl605:=H601.len (i:=3) rfl
         rw [Ap] at hl605
         have hc606:=H601.cap (i:=3) rfl
         refine aU call40 (Fold_ _ w595.heap.size fkV A419 n420 c421 (H601.rowrd (i:=3) Z) (Nat.le_refl _) (by first | assumption | rfl | omega | decide +kernel) (by first | assumption | rfl | omega | decide +kernel) (by first | assumption | rfl | omega | decide +kernel) (by first | assumption | rfl | omega | decide +kernel) recA (some ⟨b596,0,none⟩) 2 2 ((Ob.rdL (xss:=ents [(⟨2,0,0,0,⟨0,0,0,0,0,0,0⟩⟩:Entry),(⟨3,0,0,0,⟨0,0,0,0,0,0,0⟩⟩:Entry)]) (H601.ob (i:=0) Z) Z (ents_k _)).more (by omega)) (by first | assumption | rfl | omega | decide +kernel) (by first | assumption | rfl | omega | decide +kernel) (by first | assumption | rfl | omega | decide +kernel) (by first | assumption | rfl | omega | decide +kernel)) Z Z Z ?_
         rintro _ w610 ⟨A607,n608,c609,rfl,g611⟩
         have g612:=g611.fix (i:=1) rfl
         have H613:Sp [Ai 31 11 A607 n608 c609 (ents fkA.ents),Aa b596 31 [(J 2),(J 0),(J 0),(J 0),(J 0),(J 0),(J 0),(J 0),(J 0),(J 0),(J 0),(J 3),(J 0),(J 0),(J 0),(J 0),(J 0),(J 0),(J 0),(J 0),(J 0),(J 0)],Aa b588 24 [(J 0),(J 0),(J 0),(.string (⟨#[]⟩)),(.slice none 0 0)],Aa b428 24 (kC fkV A419 n420 c421),Ai 31 11 A419 n420 c421 (ents fkV.ents),Aa b174 24 (kC fk2 A165 n166 c167),Ai 31 11 A165 n166 c167 (ents fk2.ents),Aa b6 24 (kC fk0 none 0 0),Bd w Bl] w610:=H601.join (m:=[Ai 31 11 A607 n608 c609 (ents fkA.ents)]) g611
         have z614:=g612.size
         refine aM ?_
         refine ⟨(H613.sel [3,4,5,6,7,8] (by decide) Z),?_⟩
         refine zr 6 639 Z (by kernel_rfl) (H613.sel [3,4,5,6,7,8] (by decide) Z) (fun wq hq=>aX (v:=(.tuple #[(.agg ((kC fkA A607 n608 c609)).toArray),(J ((Ay fkV recA).1))])) Z) (zr 7 767 Z (by kernel_rfl) (H613.sel [3,4,5,6,7,8] (by decide) Z) (fun wq hq=>bB (vs:=[(.agg ((kC fkA A607 n608 c609)).toArray),(J ((Ay fkV recA).1))]) (v:=(.agg ((kC fkA A607 n608 c609)).toArray)) Z Z) (zr 8 1023 Z (by kernel_rfl) (H613.sel [3,4,5,6,7,8] (by decide) Z) (fun wq hq=>bB (vs:=[(.agg ((kC fkA A607 n608 c609)).toArray),(J ((Ay fkV recA).1))]) (v:=(J ((Ay fkV recA).1))) Z Z) (cO (i:=10) (by kernel_rfl) ?_)))
         refine ⟨_,2047,rfl,by kernel_rfl,?_⟩
         refine bE (vs:=(kC fkA A607 n608 c609)) (cs':=(kC fkA A607 n608 c609)) sizeOf24 (H613.ob (i:=2) Z) Z Z Z Z Z Z ?_
         intro w615 hz616 g617 o618
         have H619:Sp [Ai 31 11 A607 n608 c609 (ents fkA.ents),Aa b596 31 [(J 2),(J 0),(J 0),(J 0),(J 0),(J 0),(J 0),(J 0),(J 0),(J 0),(J 0),(J 3),(J 0),(J 0),(J 0),(J 0),(J 0),(J 0),(J 0),(J 0),(J 0),(J 0)],Aa b588 24 (kC fkA A607 n608 c609),Aa b428 24 (kC fkV A419 n420 c421),Ai 31 11 A419 n420 c421 (ents fkV.ents),Aa b174 24 (kC fk2 A165 n166 c167),Ai 31 11 A165 n166 c167 (ents fk2.ents),Aa b6 24 (kC fk0 none 0 0),Bd w Bl] w615:=H613.setB (i:=2) rfl g617 o618 rfl
         have z620:=g617.size
         refine aM ?_
         refine ⟨(H619.sel [3,4,5,6,7,8] (by decide) Z),?_⟩
         refine zr 11 4095 Z (by kernel_rfl) (H619.sel [3,4,5,6,7,8] (by decide) Z) (fun wq hq=>aY (v:=(J ((Ay fkV recA).1))) Z) (cQ (by kernel_rfl) (aQ ?_))
         exact ⟨(by repeat (first | exact aJ _ _ | exact aH _ _ | refine aI ?_ Z _)),b588,A607,n608,c609,rfl,rfl,(H619.sel [2,0,3,4,5,6,7,8] (by decide) Z)⟩
       ·refine ⟨_,515,rfl,by kernel_rfl,?_⟩
        refine bG (cs:=[(J 0),(J 0),(J 0),(.string (⟨#[]⟩)),(.slice none 0 0)]) zeroValue24 Z Z Z ?_
        intro w621 b622 hb623 hz624 g625 o626
        have H627:=H521.newB g625 o626 (by omega)
        have z628:=g625.size
        refine aM ?_
        refine ⟨(H627.sel [1,2,3,4,5,6] (by decide) Z),?_⟩
        refine cO (i:=2) (by kernel_rfl) ?_
        refine ⟨_,519,rfl,by kernel_rfl,?_⟩
        refine aU call112 (entry15 _ 3) Z Z Z ?_
        rintro _ w629 ⟨rfl,g630⟩
        have H631:=H627.grow g630
        have z632:=g630.size
        refine aM ?_
        refine ⟨(H631.sel [1,2,3,4,5,6] (by decide) Z),?_⟩
        refine cO (i:=3) (by kernel_rfl) ?_
        refine ⟨_,527,rfl,by kernel_rfl,?_⟩
        refine cF (cs:=[(J 2),(J 0),(J 0),(J 0),(J 0),(J 0),(J 0),(J 0),(J 0),(J 0),(J 0),(J 3),(J 0),(J 0),(J 0),(J 0),(J 0),(J 0),(J 0),(J 0),(J 0),(J 0)]) underlying22 sizeOf31 ze22 Z Z Z (by decide) Z Z Z ?_
        intro w633 b634 hb635 hz636 g637 o638
        have H639:=H631.newB g637 o638 (by omega)
        have z640:=g637.size
        refine aM ?_
        refine ⟨(H639.sel [2,3,4,5,6,7] (by decide) Z),?_⟩
        refine zr 4 543 Z (by kernel_rfl) (H639.sel [2,3,4,5,6,7] (by decide) Z) (fun wq hq=>bY (cs:=[(J 3),(J 3),(J 1),(J 0),(.string (⟨#[]⟩)),(J 0),(J 0),(J 0),(J 0),(J 0),(J 0),(J 0),(J 0),(J 0),(J 0),(J 0),(.slice (some ⟨b634,0,none⟩) 2 2)]) bd33 Z) (cO (i:=5) (by kernel_rfl) ?_)
        refine ⟨_,575,rfl,by kernel_rfl,?_⟩
        have hfl641:fkV.ents.length ≤ 4000:=Dg fk2 recV
        have hfi642:fkV.image.length ≤ fk2.image.length + recV.image.length:=Dk fk2 recV
        have hl643:=H639.len (i:=3) rfl
        rw [Ap] at hl643
        have hc644:=H639.cap (i:=3) rfl
        refine aU call40 (Fold_ _ w633.heap.size fkV A419 n420 c421 (H639.rowrd (i:=3) Z) (Nat.le_refl _) (by first | assumption | rfl | omega | decide +kernel) (by first | assumption | rfl | omega | decide +kernel) (by first | assumption | rfl | omega | decide +kernel) (by first | assumption | rfl | omega | decide +kernel) recA (some ⟨b634,0,none⟩) 2 2 ((Ob.rdL (xss:=ents [(⟨2,0,0,0,⟨0,0,0,0,0,0,0⟩⟩:Entry),(⟨3,0,0,0,⟨0,0,0,0,0,0,0⟩⟩:Entry)]) (H639.ob (i:=0) Z) Z (ents_k _)).more (by omega)) (by first | assumption | rfl | omega | decide +kernel) (by first | assumption | rfl | omega | decide +kernel) (by first | assumption | rfl | omega | decide +kernel) (by first | assumption | rfl | omega | decide +kernel)) Z Z Z ?_
        rintro _ w648 ⟨A645,n646,c647,rfl,g649⟩
        have g650:=g649.fix (i:=1) rfl
        have H651:Sp [Ai 31 11 A645 n646 c647 (ents fkA.ents),Aa b634 31 [(J 2),(J 0),(J 0),(J 0),(J 0),(J 0),(J 0),(J 0),(J 0),(J 0),(J 0),(J 3),(J 0),(J 0),(J 0),(J 0),(J 0),(J 0),(J 0),(J 0),(J 0),(J 0)],Aa b622 24 [(J 0),(J 0),(J 0),(.string (⟨#[]⟩)),(.slice none 0 0)],Aa b428 24 (kC fkV A419 n420 c421),Ai 31 11 A419 n420 c421 (ents fkV.ents),Aa b174 24 (kC fk2 A165 n166 c167),Ai 31 11 A165 n166 c167 (ents fk2.ents),Aa b6 24 (kC fk0 none 0 0),Bd w Bl] w648:=H639.join (m:=[Ai 31 11 A645 n646 c647 (ents fkA.ents)]) g649
        have z652:=g650.size
        refine aM ?_
        refine ⟨(H651.sel [3,4,5,6,7,8] (by decide) Z),?_⟩
        refine zr 6 639 Z (by kernel_rfl) (H651.sel [3,4,5,6,7,8] (by decide) Z) (fun wq hq=>aX (v:=(.tuple #[(.agg ((kC fkA A645 n646 c647)).toArray),(J ((Ay fkV recA).1))])) Z) (zr 7 767 Z (by kernel_rfl) (H651.sel [3,4,5,6,7,8] (by decide) Z) (fun wq hq=>bB (vs:=[(.agg ((kC fkA A645 n646 c647)).toArray),(J ((Ay fkV recA).1))]) (v:=(.agg ((kC fkA A645 n646 c647)).toArray)) Z Z) (zr 8 1023 Z (by kernel_rfl) (H651.sel [3,4,5,6,7,8] (by decide) Z) (fun wq hq=>bB (vs:=[(.agg ((kC fkA A645 n646 c647)).toArray),(J ((Ay fkV recA).1))]) (v:=(J ((Ay fkV recA).1))) Z Z) (cO (i:=10) (by kernel_rfl) ?_)))
        refine ⟨_,2047,rfl,by kernel_rfl,?_⟩
        refine bE (vs:=(kC fkA A645 n646 c647)) (cs':=(kC fkA A645 n646 c647)) sizeOf24 (H651.ob (i:=2) Z) Z Z Z Z Z Z ?_
        intro w653 hz654 g655 o656
        have H657:Sp [Ai 31 11 A645 n646 c647 (ents fkA.ents),Aa b634 31 [(J 2),(J 0),(J 0),(J 0),(J 0),(J 0),(J 0),(J 0),(J 0),(J 0),(J 0),(J 3),(J 0),(J 0),(J 0),(J 0),(J 0),(J 0),(J 0),(J 0),(J 0),(J 0)],Aa b622 24 (kC fkA A645 n646 c647),Aa b428 24 (kC fkV A419 n420 c421),Ai 31 11 A419 n420 c421 (ents fkV.ents),Aa b174 24 (kC fk2 A165 n166 c167),Ai 31 11 A165 n166 c167 (ents fk2.ents),Aa b6 24 (kC fk0 none 0 0),Bd w Bl] w653:=H651.setB (i:=2) rfl g655 o656 rfl
        have z658:=g655.size
        refine aM ?_
        refine ⟨(H657.sel [3,4,5,6,7,8] (by decide) Z),?_⟩
        refine zr 11 4095 Z (by kernel_rfl) (H657.sel [3,4,5,6,7,8] (by decide) Z) (fun wq hq=>aY (v:=(J ((Ay fkV recA).1))) Z) (cQ (by kernel_rfl) (aQ ?_))
        exact ⟨(by repeat (first | exact aJ _ _ | exact aH _ _ | refine aI ?_ Z _)),b622,A645,n646,c647,rfl,rfl,(H657.sel [2,0,3,4,5,6,7,8] (by decide) Z)⟩
      ·refine ⟨_,513,rfl,by kernel_rfl,?_⟩
       refine bG (cs:=[(J 0),(J 0),(J 0),(.string (⟨#[]⟩)),(.slice none 0 0)]) zeroValue24 Z Z Z ?_
       intro w659 b660 hb661 hz662 g663 o664
       have H665:=H517.newB g663 o664 (by omega)
       have z666:=g663.size
       refine aM ?_
       refine ⟨(H665.sel [1,2,3,4,5,6] (by decide) Z),?_⟩
       refine cO (i:=1) (by kernel_rfl) ?_
       refine ⟨_,515,rfl,by kernel_rfl,?_⟩
       refine aU call112 (entry15 _ 2) Z Z Z ?_
       rintro _ w667 ⟨rfl,g668⟩
       have H669:=H665.grow g668
       have z670:=g668.size
       refine aM ?_
       refine ⟨(H669.sel [1,2,3,4,5,6] (by decide) Z),?_⟩
       refine cO (i:=2) (by kernel_rfl) ?_
       refine ⟨_,519,rfl,by kernel_rfl,?_⟩
       refine aU call112 (entry15 _ 3) Z Z Z ?_
       rintro _ w671 ⟨rfl,g672⟩
       have H673:=H669.grow g672
       have z674:=g672.size
       refine aM ?_
       refine ⟨(H673.sel [1,2,3,4,5,6] (by decide) Z),?_⟩
       refine cO (i:=3) (by kernel_rfl) ?_
       refine ⟨_,527,rfl,by kernel_rfl,?_⟩
       refine cF (cs:=[(J 2),(J 0),(J 0),(J 0),(J 0),(J 0),(J 0),(J 0),(J 0),(J 0),(J 0),(J 3),(J 0),(J 0),(J 0),(J 0),(J 0),(J 0),(J 0),(J 0),(J 0),(J 0)]) underlying22 sizeOf31 ze22 Z Z Z (by decide) Z Z Z ?_
       intro w675 b676 hb677 hz678 g679 o680
       have H681:=H673.newB g679 o680 (by omega)
       have z682:=g679.size
       refine aM ?_
       refine ⟨(H681.sel [2,3,4,5,6,7] (by decide) Z),?_⟩
       refine zr 4 543 Z (by kernel_rfl) (H681.sel [2,3,4,5,6,7] (by decide) Z) (fun wq hq=>bY (cs:=[(J 3),(J 3),(J 1),(J 0),(.string (⟨#[]⟩)),(J 0),(J 0),(J 0),(J 0),(J 0),(J 0),(J 0),(J 0),(J 0),(J 0),(J 0),(.slice (some ⟨b676,0,none⟩) 2 2)]) bd33 Z) (cO (i:=5) (by kernel_rfl) ?_)
       refine ⟨_,575,rfl,by kernel_rfl,?_⟩
       have hfl683:fkV.ents.length ≤ 4000:=Dg fk2 recV
       have hfi684:fkV.image.length ≤ fk2.image.length + recV.image.length:=Dk fk2 recV
       have hl685:=H681.len (i:=3) rfl
       rw [Ap] at hl685
       have hc686:=H681.cap (i:=3) rfl
       refine aU call40 (Fold_ _ w675.heap.size fkV A419 n420 c421 (H681.rowrd (i:=3) Z) (Nat.le_refl _) (by first | assumption | rfl | omega | decide +kernel) (by first | assumption | rfl | omega | decide +kernel) (by first | assumption | rfl | omega | decide +kernel) (by first | assumption | rfl | omega | decide +kernel) recA (some ⟨b676,0,none⟩) 2 2 ((Ob.rdL (xss:=ents [(⟨2,0,0,0,⟨0,0,0,0,0,0,0⟩⟩:Entry),(⟨3,0,0,0,⟨0,0,0,0,0,0,0⟩⟩:Entry)]) (H681.ob (i:=0) Z) Z (ents_k _)).more (by omega)) (by first | assumption | rfl | omega | decide +kernel) (by first | assumption | rfl | omega | decide +kernel) (by first | assumption | rfl | omega | decide +kernel) (by first | assumption | rfl | omega | decide +kernel)) Z Z Z ?_
       rintro _ w690 ⟨A687,n688,c689,rfl,g691⟩
       have g692:=g691.fix (i:=1) rfl
       have H693:Sp [Ai 31 11 A687 n688 c689 (ents fkA.ents),Aa b676 31 [(J 2),(J 0),(J 0),(J 0),(J 0),(J 0),(J 0),(J 0),(J 0),(J 0),(J 0),(J 3),(J 0),(J 0),(J 0),(J 0),(J 0),(J 0),(J 0),(J 0),(J 0),(J 0)],Aa b660 24 [(J 0),(J 0),(J 0),(.string (⟨#[]⟩)),(.slice none 0 0)],Aa b428 24 (kC fkV A419 n420 c421),Ai 31 11 A419 n420 c421 (ents fkV.ents),Aa b174 24 (kC fk2 A165 n166 c167),Ai 31 11 A165 n166 c167 (ents fk2.ents),Aa b6 24 (kC fk0 none 0 0),Bd w Bl] w690:=H681.join (m:=[Ai 31 11 A687 n688 c689 (ents fkA.ents)]) g691
       have z694:=g692.size
       refine aM ?_
       refine ⟨(H693.sel [3,4,5,6,7,8] (by decide) Z),?_⟩
       refine zr 6 639 Z (by kernel_rfl) (H693.sel [3,4,5,6,7,8] (by decide) Z) (fun wq hq=>aX (v:=(.tuple #[(.agg ((kC fkA A687 n688 c689)).toArray),(J ((Ay fkV recA).1))])) Z) (zr 7 767 Z (by kernel_rfl) (H693.sel [3,4,5,6,7,8] (by decide) Z) (fun wq hq=>bB (vs:=[(.agg ((kC fkA A687 n688 c689)).toArray),(J ((Ay fkV recA).1))]) (v:=(.agg ((kC fkA A687 n688 c689)).toArray)) Z Z) (zr 8 1023 Z (by kernel_rfl) (H693.sel [3,4,5,6,7,8] (by decide) Z) (fun wq hq=>bB (vs:=[(.agg ((kC fkA A687 n688 c689)).toArray),(J ((Ay fkV recA).1))]) (v:=(J ((Ay fkV recA).1))) Z Z) (cO (i:=10) (by kernel_rfl) ?_)))
       refine ⟨_,2047,rfl,by kernel_rfl,?_⟩
       refine bE (vs:=(kC fkA A687 n688 c689)) (cs':=(kC fkA A687 n688 c689)) sizeOf24 (H693.ob (i:=2) Z) Z Z Z Z Z Z ?_
       intro w695 hz696 g697 o698
       have H699:Sp [Ai 31 11 A687 n688 c689 (ents fkA.ents),Aa b676 31 [(J 2),(J 0),(J 0),(J 0),(J 0),(J 0),(J 0),(J 0),(J 0),(J 0),(J 0),(J 3),(J 0),(J 0),(J 0),(J 0),(J 0),(J 0),(J 0),(J 0),(J 0),(J 0)],Aa b660 24 (kC fkA A687 n688 c689),Aa b428 24 (kC fkV A419 n420 c421),Ai 31 11 A419 n420 c421 (ents fkV.ents),Aa b174 24 (kC fk2 A165 n166 c167),Ai 31 11 A165 n166 c167 (ents fk2.ents),Aa b6 24 (kC fk0 none 0 0),Bd w Bl] w695:=H693.setB (i:=2) rfl g697 o698 rfl
       have z700:=g697.size
       refine aM ?_
       refine ⟨(H699.sel [3,4,5,6,7,8] (by decide) Z),?_⟩
       refine zr 11 4095 Z (by kernel_rfl) (H699.sel [3,4,5,6,7,8] (by decide) Z) (fun wq hq=>aY (v:=(J ((Ay fkV recA).1))) Z) (cQ (by kernel_rfl) (aQ ?_))
       exact ⟨(by repeat (first | exact aJ _ _ | exact aH _ _ | refine aI ?_ Z _)),b660,A687,n688,c689,rfl,rfl,(H699.sel [2,0,3,4,5,6,7,8] (by decide) Z)⟩
     ·rintro ρc514 w701 ho702 ⟨b501,A492,n493,c494,hs704,hs705,H703⟩
      obtain ⟨jc514,rfl⟩:=ho702.shape2 hs704 hs705
      clear ho702 hs704 hs705
      have z706:=(H703.fix (i:=7) rfl).size
      refine aQ (cT (zg Z (bW Z (Aj (cs:=(kC fkA A492 n493 c494)) Ct (H703.ob (i:=0) Z).cl)) (zg Z (fa24_3 (b:=⟨b6,3,none⟩) Z Z) (zl (.string (tx fk0.image)) lo9 (H703.ob (i:=6) Z) Z (zg Z (bY (cs:=[(J 4),(J 0),(J 0),(J 2),(.string (tx fk0.image)),(J 0),(J 0),(J 0),(J 0),(J 0),(J 0),(J 0),(J 0),(J 0),(J 0),(J 0),(.slice none 0 0)]) bd33 Z) ?_)))))
      have hfl707:fkA.ents.length ≤ 4000:=Dg fkV recA
      have hfi708:fkA.image.length ≤ fkV.image.length + recA.image.length:=Dk fkV recA
      have hl709:=H703.len (i:=1) rfl
      rw [Ap] at hl709
      have hc710:=H703.cap (i:=1) rfl
      refine aU call40 (Fold_ _ w701.heap.size fkA A492 n493 c494 (H703.rowrd (i:=1) Z) (Nat.le_refl _) (by first | assumption | rfl | omega | decide +kernel) (by first | assumption | rfl | omega | decide +kernel) (by first | assumption | rfl | omega | decide +kernel) (by first | assumption | rfl | omega | decide +kernel) recC none 0 0 ((Rd.nil_ _ _ 11 none)) (by first | assumption | rfl | omega | decide +kernel) (by first | assumption | rfl | omega | decide +kernel) (by first | assumption | rfl | omega | decide +kernel) (by first | assumption | rfl | omega | decide +kernel)) Z Z Z ?_
      rintro _ w714 ⟨A711,n712,c713,rfl,g715⟩
      have g716:=g715.fix (i:=1) rfl
      have H717:Sp [Ai 31 11 A711 n712 c713 (ents fkC.ents),Aa b501 24 (kC fkA A492 n493 c494),Ai 31 11 A492 n493 c494 (ents fkA.ents),Aa b428 24 (kC fkV A419 n420 c421),Ai 31 11 A419 n420 c421 (ents fkV.ents),Aa b174 24 (kC fk2 A165 n166 c167),Ai 31 11 A165 n166 c167 (ents fk2.ents),Aa b6 24 (kC fk0 none 0 0),Bd w Bl] w714:=H703.join (m:=[Ai 31 11 A711 n712 c713 (ents fkC.ents)]) g715
      have z718:=g716.size
      refine zm (.tuple #[(.agg ((kC fkC A711 n712 c713)).toArray),(J ((Ay fkA recC).1))]) Z (zx (.agg ((kC fkC A711 n712 c713)).toArray) Z (zx (J ((Ay fkA recC).1)) Z (bG (cs:=[(J 0),(J 0),(J 0),(.string (⟨#[]⟩)),(.slice none 0 0)]) zeroValue24 Z Z Z ?_)))
      intro w719 b720 hb721 hz722 g723 o724
      have H725:=H717.newB g723 o724 (by omega)
      have z726:=g723.size
      refine bE (vs:=(kC fkC A711 n712 c713)) (cs':=(kC fkC A711 n712 c713)) sizeOf24 (H725.ob (i:=0) Z) Z Z Z Z Z Z ?_
      intro w727 hz728 g729 o730
      have H731:Sp [Aa b720 24 (kC fkC A711 n712 c713),Ai 31 11 A711 n712 c713 (ents fkC.ents),Aa b501 24 (kC fkA A492 n493 c494),Ai 31 11 A492 n493 c494 (ents fkA.ents),Aa b428 24 (kC fkV A419 n420 c421),Ai 31 11 A419 n420 c421 (ents fkV.ents),Aa b174 24 (kC fk2 A165 n166 c167),Ai 31 11 A165 n166 c167 (ents fk2.ents),Aa b6 24 (kC fk0 none 0 0),Bd w Bl] w727:=H725.setB (i:=0) rfl g729 o730 rfl
      have z732:=g729.size
      refine za (J ((Ay fkA recC).1)) Z (cS (cT (zm (J 0) Z (zg Z (bP (r:=true) Z Z (by decide)) (zm bT Z (zm (J ((newK 9).1)) Z (zg Z (bP (r:=true) Z Z (decide_eq_true (by decide +kernel))) (zT bT Z (zm bT Z (zm (J ((Ay fk0 (Bu 1)).1)) Z (zg Z (bP (r:=true) Z Z (decide_eq_true (by decide +kernel))) ?_)))))))))))
      refine zT bT Z (zm bT Z (zm (J ((Ay fk1 (Bu 2)).1)) Z (zg Z (bP (r:=true) Z Z (decide_eq_true (by decide +kernel))) (zT bT Z (zm bT Z (zg Z (bW Z (Aj (cs:=(kC fk2 A165 n166 c167)) Ct (H731.ob (i:=6) Z).cl)) ?_))))))
      have hfl733:fk2.ents.length ≤ 4000:=Dg fk1 (Bu 2)
      have hfi734:fk2.image.length ≤ fk1.image.length + (Bu 2).image.length:=Dk fk1 (Bu 2)
      have hl735:=H731.len (i:=7) rfl
      rw [Ap] at hl735
      have hc736:=H731.cap (i:=7) rfl
      refine aU call62 (Last_ _ _ _ fk2 (KeptR.of (k:=fk2) (n:=n166) (c:=c167) (H731.rowrd (i:=7) Z) (by show n166 = (fk2.ents).length; (try simp only [List.length_append,List.length_cons,List.length_nil,List.length_take,List.length_drop]); all_goals omega) (by omega) (by omega) (by first | assumption | (show List.length _ ≤ _; first | assumption | decide | omega))) (Nat.le_refl _)) Z Z Z ?_
      rintro _ w737 ⟨rfl,g738⟩
      have H739:=H731.grow g738
      have z740:=g738.size
      refine zg Z (bP (r:=true) Z Z (decide_eq_true (by decide +kernel))) (zT bT Z (zm bT Z (zm (J ((Ay fk2 (Bu 4)).1)) Z (zg Z (bP (r:=true) Z Z (decide_eq_true (by decide +kernel))) (zT bT Z (zm bT Z (zm (J ((Ay fk2 recV).1)) Z (zg Z (bP (r:=true) Z Z (decide_eq_true (by decide +kernel))) (zT bT Z (zm bT Z ?_))))))))))
      refine zg Z (fa24_0 (b:=⟨b428,0,none⟩) Z Z) (zl (J fkV.view) Bw (H739.ob (i:=4) Z) Z (zg Z (bP (r:=true) Z Z (decide_eq_true (by decide +kernel))) (zT bT Z (zm bT Z (zg Z (fa24_1 (b:=⟨b428,1,none⟩) Z Z) (zl (J fkV.normal) Bw (H739.ob (i:=4) Z) Z (zg Z (bP (r:=true) Z Z (decide_eq_true (by decide +kernel))) (zT bT Z (zm bT Z (zm (J ((Ay fkV recU).1)) Z ?_))))))))))
      refine zg Z (bP (r:=true) Z Z (decide_eq_true (by decide +kernel))) (zT bT Z (za bT Z (cS (aD ?_))))
      have H741:Sp [Aa b720 24 (kC fkC A711 n712 c713),Ai 31 11 A711 n712 c713 (ents fkC.ents),Aa b501 24 (kC fkA A492 n493 c494),Ai 31 11 A492 n493 c494 (ents fkA.ents),Bd w Bl] w737:=(H739.sel [0,1,2,3,9] (by decide) rfl)
      refine aL (zm bT Z (zm bT Z (zm (J ((Ay fkV recA).1)) Z (zg Z (bP (r:=true) Z Z (decide_eq_true (by decide +kernel))) (zT bT Z (zm bT Z (zg Z (fa24_1 (b:=⟨b501,1,none⟩) Z Z) (zl (J fkA.normal) Bw (H741.ob (i:=2) Z) Z (zg Z (bP (r:=true) Z Z (decide_eq_true (by decide +kernel))) (zT bT Z ?_))))))))))
      refine zm bT Z (zg Z (bW Z (Aj (cs:=(kC fkA A492 n493 c494)) Ct (H741.ob (i:=2) Z).cl)) ?_)
      have hfl742:fkA.ents.length ≤ 4000:=Dg fkV recA
      have hfi743:fkA.image.length ≤ fkV.image.length + recA.image.length:=Dk fkV recA
      have hl744:=H741.len (i:=3) rfl
      rw [Ap] at hl744
      have hc745:=H741.cap (i:=3) rfl
      refine aU call62 (Last_ _ _ _ fkA (KeptR.of (k:=fkA) (n:=n493) (c:=c494) (H741.rowrd (i:=3) Z) (by show n493 = (fkA.ents).length; (try simp only [List.length_append,List.length_cons,List.length_nil,List.length_take,List.length_drop]); all_goals omega) (by omega) (by omega) (by first | assumption | (show List.length _ ≤ _; first | assumption | decide | omega))) (Nat.le_refl _)) Z Z Z ?_
      rintro _ w746 ⟨rfl,g747⟩
      have H748:=H741.grow g747
      have z749:=g747.size
      refine zg Z (bP (r:=true) Z Z (decide_eq_true (by decide +kernel))) (zT bT Z (zm bT Z (zm (J ((Ay fkA recC).1)) Z (zg Z (bP (r:=true) Z Z (decide_eq_true (by decide +kernel))) (zT bT Z (zm bT Z (zg Z (fa24_2 (b:=⟨b720,2,none⟩) Z Z) (zl (J fkC.base) Bw (H748.ob (i:=0) Z) Z (zg Z (bP (r:=true) Z Z (decide_eq_true (by decide +kernel))) (zT bT Z ?_))))))))))
      refine zm bT Z (zg Z (bW Z (Aj (cs:=(kC fkC A711 n712 c713)) Ct (H748.ob (i:=0) Z).cl)) ?_)
      have hfl750:fkC.ents.length ≤ 4000:=Dg fkA recC
      have hfi751:fkC.image.length ≤ fkA.image.length + recC.image.length:=Dk fkA recC
      have hl752:=H748.len (i:=1) rfl
      rw [Ap] at hl752
      have hc753:=H748.cap (i:=1) rfl
      refine aU call62 (Last_ _ _ _ fkC (KeptR.of (k:=fkC) (n:=n712) (c:=c713) (H748.rowrd (i:=1) Z) (by show n712 = (fkC.ents).length; (try simp only [List.length_append,List.length_cons,List.length_nil,List.length_take,List.length_drop]); all_goals omega) (by omega) (by omega) (by first | assumption | (show List.length _ ≤ _; first | assumption | decide | omega))) (Nat.le_refl _)) Z Z Z ?_
      rintro _ w754 ⟨rfl,g755⟩
      have H756:=H748.grow g755
      have z757:=g755.size
      refine zg Z (bP (r:=true) Z Z (decide_eq_true (by decide +kernel))) (zT bT Z (zm bT Z (zg Z (bW Z (Aj (cs:=(kC fkC A711 n712 c713)) Ct (H756.ob (i:=0) Z).cl)) ?_)))
      have hfl758:fkC.ents.length ≤ 4000:=Dg fkA recC
      have hfi759:fkC.image.length ≤ fkA.image.length + recC.image.length:=Dk fkA recC
      have hl760:=H756.len (i:=1) rfl
      rw [Ap] at hl760
      have hc761:=H756.cap (i:=1) rfl
      refine aU call57 (opCheck_ _ _ _ fkC (KeptR.of (k:=fkC) (n:=n712) (c:=c713) (H756.rowrd (i:=1) Z) (by show n712 = (fkC.ents).length; (try simp only [List.length_append,List.length_cons,List.length_nil,List.length_take,List.length_drop]); all_goals omega) (by omega) (by omega) (by first | assumption | (show List.length _ ≤ _; first | assumption | decide | omega))) (Nat.le_refl _)) Z Z Z ?_
      rintro _ w762 ⟨rfl,g763⟩
      have H764:=H756.grow g763
      have z765:=g763.size
      refine zg Z (bP (r:=true) Z Z (decide_eq_true (by decide +kernel))) (zT bT Z (za bT Z (cS (aB (aO (v:=bT) (Ba Z Z) ?_)))))
      exact ⟨Z,(H764.fix (i:=4) Z)⟩
end Go.Proofs.YtfokljnhllflbaaGreat
namespace Go.Eng
open Go Go.RowKit
def laidC (e:Entry):List Value:=[.int .i64 2,.int .i64 0,.int .i64 0,.int .i64 0,.string ⟨#[]⟩,.int .i64 e.num,.int .i64 e.view,.int .i64 e.client,.int .i64 e.seq,.int .i64 e.op.kind,.int .i64 e.op.h,.int .i64 e.op.i,.int .i64 e.op.n,.int .i64 e.op.k,.int .i64 e.op.v,.int .i64 e.op.t,.slice none 0 0]
def recsE (l:List Entry):List (List Value):=l.map laidC
theorem Do (l:List Entry):(recsE l).length = l.length:=by simp [recsE]
end Go.Eng
namespace Go.Eng
end Go.Eng
namespace Go.Eng
open Go Go.RowKit
structure Vote where
  (node normal base number commit:Int)
  ents:List Entry
  deriving DecidableEq
structure RVote where
  v:Vote
  s:Sl
def RVote.cells (r:RVote):List Value:=[.int .i64 r.v.node,.int .i64 r.v.normal,.int .i64 r.v.base,.int .i64 r.v.number,.int .i64 r.v.commit,.slice r.s.a r.s.n r.s.c]
def VtR (w:World) (B:Nat) (l:List RVote):Prop := ∀ r ∈ l,Rd w B 11 r.s.a (ents r.v.ents)∧r.s.n = r.v.ents.length∧r.s.n ≤ r.s.c
theorem VtR.st0 {w w':World} {B:Nat} {l:List RVote} (h:VtR w B l) (g:w.grownBy w' none):VtR w' B l:=fun r hr=>⟨(h r hr).1.st0 g,(h r hr).2⟩
theorem VtR.more {w : World} {B B' : Nat} {l : List RVote} (h : VtR w B l) (hb : B ≤ B') : VtR w B' l := fun r hr => ⟨(h r hr).1.more hb, (h r hr).2⟩
section
variable {w w' w0:World} {l m:List Atom} {A B C:Atom} {i j:Nat}
theorem Sp.merge (h:Sp (A :: B :: l) w) (hw : ∀ S T,A.ok S w → B.ok T w → C.ok (fun b=>S b ∨ T b) w):Sp (C :: l) w:=by
  obtain ⟨S,h1,h2⟩:=h
  refine ⟨fun a b=>if a = 0 then S 0 b ∨ S 1 b else S (a + 1) b,fun a c b ha hc=>?_,fun a D ha=>?_⟩
  · dsimp only at ha hc
    by_cases e1:a = 0 <;> by_cases e2:c = 0
    · rw [e1,e2]
    · rw [if_pos e1] at ha; rw [if_neg e2] at hc
      rcases ha with ha | ha <;> have:=h1 _ _ b ha hc <;> omega
    · rw [if_neg e1] at ha; rw [if_pos e2] at hc
      rcases hc with hc | hc <;> have:=h1 _ _ b ha hc <;> omega
    · rw [if_neg e1] at ha; rw [if_neg e2] at hc
      have:=h1 _ _ b ha hc; omega
  · cases a with
    | zero=>simp at ha; subst ha; exact C.mono (fun b hb=>by show ite _ _ _; rw [if_pos rfl]; exact hb) (hw _ _ (h2 0 A rfl) (h2 1 B rfl))
    | succ a=>exact D.mono (fun b hb=>by show ite _ _ _; rw [if_neg (by omega)]; exact hb) (h2 (a + 2) D (by simpa using ha))
theorem VtR.get {w:World} {B:Nat} {l:List RVote} (h:VtR w B l) {k:Nat} {r:RVote} (hr:l[k]? = some r):Rd w B 11 r.s.a (ents r.v.ents)∧r.s.n = r.v.ents.length∧r.s.n ≤ r.s.c:=h r (List.mem_of_getElem? hr)
end
end Go.Eng
namespace Go.Eng
open Go
theorem iand_words : ∀ k:Nat,k < 9 → ∀ a:Nat,a < 257 → decide (iand .i64 (a:Int) (Af (k:Int) - 1) = 0) = decide ((a:Int).tmod (Af (k:Int)) = 0):=by decide +kernel
theorem ixor_words : ∀ k:Nat,k < 8 → ∀ a:Nat,a < 257 → (a:Int).tmod (Af (k:Int)) = 0 → ixor .i64 (a:Int) (Af (k:Int)) = if (a:Int).tmod (2 * Af (k:Int)) = 0 then (a:Int) + Af (k:Int) else (a:Int) - Af (k:Int):=by decide +kernel
def meetB (a b:Blk):Bool:=decide (a.at_ < b.at_ + Af b.ord) && decide (b.at_ < a.at_ + Af a.ord)
theorem meetB_f {a b:Blk} : meetB a b = false ↔ (b.at_ + Af b.ord ≤ a.at_ ∨ a.at_ + Af a.ord ≤ b.at_):=by
  unfold meetB
  rw [Bool.and_eq_false_iff,decide_eq_false_iff_not,decide_eq_false_iff_not]
  omega
def mayR (o:Int) (b:Blk):Bool:=decide (0 ≤ b.ord) && decide (b.ord ≤ o) && decide (0 ≤ b.at_) && decide (b.at_ ≤ Af o - Af b.ord) && decide (b.at_.tmod (Af b.ord) = 0)
theorem mayR_t {o:Int} {b:Blk} : mayR o b = true ↔ (0 ≤ b.ord∧b.ord ≤ o∧0 ≤ b.at_∧b.at_ ≤ Af o - Af b.ord∧b.at_.tmod (Af b.ord) = 0):=by
  unfold mayR
  simp only [Bool.and_eq_true,decide_eq_true_eq,and_assoc]
theorem mayR_eq {o:Int} (b:Blk) (h0:o ≤ 8):mayR o b = mayB o b:=by
  unfold mayR mayB
  by_cases h:0 ≤ b.ord∧b.ord ≤ o∧0 ≤ b.at_∧b.at_ ≤ Af o - Af b.ord
  · obtain ⟨h1,h2,h3,h4⟩:=h
    have w1:=Bc o
    have w2:=Bc b.ord
    have e1:b.ord = (b.ord.toNat:Int):=(Int.toNat_of_nonneg h1).symm
    have e2:b.at_ = (b.at_.toNat:Int):=(Int.toNat_of_nonneg h3).symm
    have:=iand_words b.ord.toNat (by omega) b.at_.toNat (by omega)
    rw [← e1,← e2] at this
    rw [this]
  · have e:(decide (0 ≤ b.ord) && decide (b.ord ≤ o) && decide (0 ≤ b.at_) && decide (b.at_ ≤ Af o - Af b.ord)) = false:=by
      cases hx:(decide (0 ≤ b.ord) && decide (b.ord ≤ o) && decide (0 ≤ b.at_) && decide (b.at_ ≤ Af o - Af b.ord)) with
      | false=>rfl
      | true =>
        simp only [Bool.and_eq_true,decide_eq_true_eq] at hx
        exact absurd ⟨hx.1.1.1,hx.1.1.2,hx.1.2,hx.2⟩ h
    rw [e,Bool.false_and,Bool.false_and]
def twinR (b:Blk):Blk:=if b.at_.tmod (2 * Af b.ord) = 0 then ⟨b.at_ + Af b.ord,b.ord⟩ else ⟨b.at_ - Af b.ord,b.ord⟩
theorem twinR_eq {o:Int} {b:Blk} (h:mayR o b = true) (ho:b.ord < o) (h8:o ≤ 8):twinR b = twinOf b:=by
  obtain ⟨h1,h2,h3,h4,h5⟩:=mayR_t.1 h
  have w1:=Bc o
  have w2:=Bc b.ord
  have e1:b.ord = (b.ord.toNat:Int):=(Int.toNat_of_nonneg h1).symm
  have e2:b.at_ = (b.at_.toNat:Int):=(Int.toNat_of_nonneg h3).symm
  have:=ixor_words b.ord.toNat (by omega) b.at_.toNat (by omega)
  rw [← e1,← e2] at this
  unfold twinR twinOf
  rw [this h5]
  split <;> rfl
def okP (o:Int) (y x:Blk):Prop:=y.at_ < x.at_∧meetB x y = false ∧ ¬ (x.ord < o∧twinR x = y)
theorem twinR_at {x y:Blk} (h:twinR x = y):y.ord = x.ord∧(y.at_ = x.at_ + Af x.ord ∨ y.at_ = x.at_ - Af x.ord):=by
  unfold twinR at h
  split at h <;> subst h
  · exact ⟨Z,.inl Z⟩
  · exact ⟨Z,.inr Z⟩
theorem buddyGo_pw {o:Int} (h8:o ≤ 8) : ∀ {l:List Blk} {e:Int} {last:Blk},buddyGo o l e last = true ↔
    (∀ x ∈ l,mayR o x = true∧e ≤ x.at_)∧l.Pairwise (okP o)∧(∀ x,l.head? = some x → ¬ (x.ord < o∧last = twinOf x∧0 ≤ last.at_))
  | [],_,_=>by simp [buddyGo]
  | b :: l,e,last=>by
    have hd:buddyGo o (b :: l) e last = true ↔ (mayR o b = true∧e ≤ b.at_ ∧ ¬ (b.ord < o∧last = twinOf b∧0 ≤ last.at_))∧buddyGo o l (b.at_ + Af b.ord) b = true:=by
      rw [mayR_eq b h8]
      conv=>lhs; unfold buddyGo
      simp only [Bool.and_eq_true,Bool.not_eq_true',decide_eq_false_iff_not,Bool.and_eq_false_iff,decide_eq_true_eq]
      constructor
      · rintro ⟨⟨⟨h1,h2⟩,h3⟩,h4⟩
        refine ⟨⟨h1,by omega,fun ⟨q1,q2,q3⟩=>?_⟩,h4⟩
        rcases h3 with (h3 | h3) | h3
        · exact h3 q1
        · exact h3 q2
        · exact h3 q3
      · rintro ⟨⟨h1,h2,h3⟩,h4⟩
        refine ⟨⟨⟨h1,by omega⟩,?_⟩,h4⟩
        by_cases q1:b.ord < o
        · by_cases q2:last = twinOf b
          · exact .inr fun q3=>h3 ⟨q1,q2,q3⟩
          · exact .inl (.inr q2)
        · exact .inl (.inl q1)
    rw [hd,buddyGo_pw h8 (l:=l)]
    constructor
    · rintro ⟨⟨h1,h2,h3⟩,h4,h5,h6⟩
      obtain ⟨m1,m2,m3,m4,m5⟩:=mayR_t.1 h1
      have wb:=Bt m1 (by omega)
      refine ⟨fun x hx=>?_,List.pairwise_cons.2 ⟨fun x hx=>?_,h5⟩,fun x hx=>by simp at hx; subst hx; exact h3⟩
      · rcases List.mem_cons.1 hx with rfl | hx
        · exact ⟨h1,h2⟩
        · have:=h4 x hx; exact ⟨this.1,by omega⟩
      · have hx4:=h4 x hx
        refine ⟨by omega,meetB_f.2 (.inl hx4.2),fun ⟨q1,q2⟩=>?_⟩
        obtain ⟨t1,t2⟩:=twinR_at q2
        obtain ⟨n1,n2,n3,n4,n5⟩:=mayR_t.1 hx4.1
        have wx:=Bt n1 (by omega)
        cases l with
        | nil=>simp at hx
        | cons c l =>
          rcases List.mem_cons.1 hx with rfl | hx
          · refine h6 x Z ⟨q1,?_,m3⟩
            rw [← twinR_eq hx4.1 q1 h8]; exact q2.symm
          · have c1:=(h4 c (by simp)).2
            have c2:=((List.pairwise_cons.1 h5).1 x hx).1
            rw [t1] at c1
            rcases t2 with t2 | t2 <;> omega
    · rintro ⟨h1,h2,h3⟩
      obtain ⟨p1,p2⟩:=List.pairwise_cons.1 h2
      have hb:=h1 b (by simp)
      refine ⟨⟨hb.1,hb.2,h3 b Z⟩,fun x hx=>?_,p2,fun x hx=>?_⟩
      · have hx1:=h1 x (List.mem_cons_of_mem _ hx)
        obtain ⟨q1,q2,q3⟩:=p1 x hx
        obtain ⟨n1,n2,n3,n4,n5⟩:=mayR_t.1 hx1.1
        have wx:=Bt n1 (by omega)
        refine ⟨hx1.1,?_⟩
        rcases meetB_f.1 q2 with q2 | q2 <;> omega
      · have hx':x ∈ l:=List.mem_of_mem_head? hx
        obtain ⟨q1,q2,q3⟩:=p1 x hx'
        rintro ⟨r1,r2,r3⟩
        refine q3 ⟨r1,?_⟩
        rw [twinR_eq (h1 x (List.mem_cons_of_mem _ hx')).1 r1 h8]; exact r2.symm
theorem buddyGo_len2 {o:Int} (h8:o ≤ 8) : ∀ {l:List Blk} {e:Int} {last:Blk},buddyGo o l e last = true → l = [] ∨ e + l.length ≤ Af o
  | [],_,_,_=>.inl rfl
  | b :: l,e,last,h=>by
    obtain ⟨h1,_,_⟩:=(buddyGo_pw h8).1 h
    have hb:=h1 b (by simp)
    obtain ⟨m1,m2,m3,m4,m5⟩:=mayR_t.1 hb.1
    have wb:=Bt m1 (by omega)
    unfold buddyGo at h
    rw [Bool.and_eq_true] at h
    right
    rw [List.length_cons]
    rcases buddyGo_len2 h8 h.2 with h2 | h2
    · subst h2; simp only [List.length_nil]; omega
    · omega
def RightF (o:Int) (l:List Blk):Prop:=(3 ≤ o∧o ≤ 8)∧(l.length:Int) ≤ Af o∧(∀ x ∈ l,mayR o x = true)∧l.Pairwise (okP o)
theorem buddy_right {o:Int} {l:List Blk} : buddyB o l = true ↔ RightF o l:=by
  unfold buddyB RightF
  rw [Bool.and_eq_true]
  constructor
  · rintro ⟨h1,h2⟩
    have h1:=Bh h1
    obtain ⟨a1,a2,_⟩:=(buddyGo_pw h1.2).1 h2
    refine ⟨h1,?_,fun x hx=>(a1 x hx).1,a2⟩
    rcases buddyGo_len2 h1.2 h2 with h3 | h3
    · subst h3; exact (Bc o).1
    · omega
  · rintro ⟨h1,h2,h3,h4⟩
    refine ⟨by simp [Az]; exact h1,(buddyGo_pw h1.2).2 ⟨fun x hx=>⟨h3 x hx,(mayR_t.1 (h3 x hx)).2.2.1⟩,h4,fun x _ ⟨_,_,q⟩=>by simp at q⟩⟩
theorem bsGo_spec {hs:List Int} {t:Int} (hp : ∀ i j:Nat,i ≤ j → j < hs.length → hs.getD i 0 ≤ hs.getD j 0) : ∀ (n i j:Nat),j - i ≤ n → i ≤ j → j ≤ hs.length → (∀ k,k < i → hs.getD k 0 < t) → (∀ k,j ≤ k → k < hs.length → ¬ hs.getD k 0 < t) →
    (∀ k,k < bsGo hs t i j → hs.getD k 0 < t)∧(∀ k,bsGo hs t i j ≤ k → k < hs.length → ¬ hs.getD k 0 < t)
  | 0,i,j,hn,hij,hj,h1,h2=>by
    rw [bsGo_end (by omega)]
    exact ⟨h1,fun k hk hl=>h2 k (by omega) hl⟩
  | n + 1,i,j,hn,hij,hj,h1,h2=>by
    by_cases hlt:i < j
    · by_cases hm:hs.getD ((i + j) / 2) 0 < t
      · rw [← bsGo_lo hlt rfl hm]
        refine bsGo_spec hp n _ _ (by omega) (by omega) hj (fun k hk=>?_) h2
        have:=hp k ((i + j) / 2) (by omega) (by omega)
        omega
      · rw [← bsGo_hi hlt rfl hm]
        refine bsGo_spec hp n _ _ (by omega) (by omega) (by omega) h1 (fun k hk hl=>?_)
        have:=hp ((i + j) / 2) k hk hl
        omega
    · rw [bsGo_end hlt]
      exact ⟨h1,fun k hk hl=>h2 k (by omega) hl⟩
theorem found_of {hs:List Int} {t:Int} (hs1:hs.Pairwise (· < ·)) (ht:t ∈ hs):foundB hs t = true:=by
  have hp : ∀ i j:Nat,i < j → j < hs.length → hs.getD i 0 < hs.getD j 0:=fun i j hij hj=>by
    have:=(List.pairwise_iff_getElem.1 hs1) i j (by omega) hj hij
    rw [List.getD_eq_getElem?_getD,List.getD_eq_getElem?_getD,List.getElem?_eq_getElem (show i < hs.length by omega),List.getElem?_eq_getElem hj]
    exact this
  have hp' : ∀ i j:Nat,i ≤ j → j < hs.length → hs.getD i 0 ≤ hs.getD j 0:=fun i j hij hj=>by
    rcases Nat.lt_or_ge i j with h | h
    · have:=hp i j h hj; omega
    · have:i = j:=by omega
      subst this; exact Int.le_refl _
  obtain ⟨m,hm⟩:=List.mem_iff_getElem?.1 ht
  have hl:=(List.getElem?_eq_some_iff.1 hm).1
  have em:hs.getD m 0 = t:=by rw [List.getD_eq_getElem?_getD,hm]; rfl
  obtain ⟨a1,a2⟩:=bsGo_spec (t:=t) hp' hs.length 0 hs.length (by omega) (Nat.zero_le _) (Nat.le_refl _) (fun k hk=>by omega) (fun k hk hl=>by omega)
  have e:bsI hs t = m:=by
    have b1 : ¬ m < bsI hs t:=fun h=>by have:=a1 m h; omega
    have b2 : ¬ bsI hs t < m:=fun h=>by
      have:=hp _ m h hl
      have:=a2 (bsI hs t) (Nat.le_refl _) (by omega)
      omega
    omega
  unfold foundB
  rw [e,em]
  simp [hl]
theorem asc_pw {next:Int} : ∀ {l:List Int} {last:Int},ascB next last l = true ↔ (∀ x ∈ l,last < x∧x < next)∧l.Pairwise (· < ·)
  | [],last=>by simp [ascB]
  | x :: l,last=>by
    unfold ascB
    simp only [Bool.and_eq_true,decide_eq_true_eq]
    rw [asc_pw (l:=l),List.pairwise_cons]
    constructor
    · rintro ⟨⟨h1,h2⟩,h3,h4⟩
      refine ⟨fun y hy=>?_,fun y hy=>(h3 y hy).1,h4⟩
      rcases List.mem_cons.1 hy with rfl | hy
      · exact ⟨h1,h2⟩
      · have:=h3 y hy; omega
    · rintro ⟨h1,h2,h3⟩
      refine ⟨h1 x (by simp),fun y hy=>⟨h2 y hy,(h1 y (List.mem_cons_of_mem _ hy)).2⟩,h3⟩
theorem lead_iff {hs:List Int} {t:Int} (h:hs.Pairwise (· < ·)):leadB hs t = true ↔ (t = 0 ∨ t ∈ hs):=by
  unfold leadB
  rw [Bool.or_eq_true,decide_eq_true_eq]
  exact ⟨fun h1=>h1.imp id found_mem,fun h1=>h1.imp id (found_of h)⟩
def sumW (l:List Blk):Int:=(l.map fun b=>Af b.ord).sum
theorem sumW_cons (b:Blk) (l:List Blk):sumW (b :: l) = Af b.ord + sumW l:=by simp [sumW]
theorem sumW_perm {l m:List Blk} (h:l.Perm m):sumW l = sumW m:=by
  induction h with
  | nil=>rfl
  | cons x _ ih=>rw [sumW_cons,sumW_cons,ih]
  | swap x y l=>rw [sumW_cons,sumW_cons,sumW_cons,sumW_cons]; omega
  | trans _ _ h1 h2=>rw [h1,h2]
def apart (y x:Blk):Prop:=meetB x y = false
theorem apart_symm {x y:Blk} (h:apart x y):apart y x:=by
  unfold apart at h ⊢
  rw [meetB_f] at h ⊢
  omega
theorem sum_le {N:Int} : ∀ {l:List Blk} {e:Int},e ≤ N → (∀ b ∈ l,1 ≤ Af b.ord∧e ≤ b.at_∧b.at_ + Af b.ord ≤ N) → l.Pairwise (fun a b=>a.at_ ≤ b.at_) → l.Pairwise apart → sumW l ≤ N - e
  | [],e,h,_,_,_=>by show (0:Int) ≤ _; omega
  | b :: l,e,h,h1,h2,h3=>by
    obtain ⟨p1,p2⟩:=List.pairwise_cons.1 h2
    obtain ⟨q1,q2⟩:=List.pairwise_cons.1 h3
    obtain ⟨b1,b2,b3⟩:=h1 b (by simp)
    have ih:=sum_le (N:=N) (l:=l) (e:=b.at_ + Af b.ord) b3 (fun x hx=>by
      obtain ⟨x1,x2,x3⟩:=h1 x (List.mem_cons_of_mem _ hx)
      refine ⟨x1,?_,x3⟩
      have y1:=p1 x hx
      rcases meetB_f.1 (q1 x hx) with y2 | y2 <;> omega) p2 q2
    rw [sumW_cons]
    omega
theorem cover {N:Int} : ∀ {l:List Blk} {e:Int},e ≤ N → (∀ b ∈ l,1 ≤ Af b.ord∧e ≤ b.at_∧b.at_ + Af b.ord ≤ N) → l.Pairwise (fun a b=>a.at_ ≤ b.at_) → l.Pairwise apart → sumW l = N - e → Bx e l = some N
  | [],e,h,_,_,_,hs=>by
    have:(0:Int) = N - e:=hs
    unfold Bx; rw [show e = N by omega]
  | b :: l,e,h,h1,h2,h3,hs=>by
    obtain ⟨p1,p2⟩:=List.pairwise_cons.1 h2
    obtain ⟨q1,q2⟩:=List.pairwise_cons.1 h3
    obtain ⟨b1,b2,b3⟩:=h1 b (by simp)
    have hl : ∀ x ∈ l,1 ≤ Af x.ord∧b.at_ + Af b.ord ≤ x.at_∧x.at_ + Af x.ord ≤ N:=fun x hx=>by
      obtain ⟨x1,x2,x3⟩:=h1 x (List.mem_cons_of_mem _ hx)
      refine ⟨x1,?_,x3⟩
      have y1:=p1 x hx
      rcases meetB_f.1 (q1 x hx) with y2 | y2 <;> omega
    have:=sum_le b3 hl p2 q2
    rw [sumW_cons] at hs
    have e0:b.at_ = e:=by omega
    unfold Bx
    rw [if_pos e0]
    refine cover (by omega) (fun x hx=>by have:=hl x hx; omega) p2 q2 (by omega)
theorem contig_in {N:Int} : ∀ {l:List Blk} {e:Int},(∀ b ∈ l,1 ≤ Af b.ord) → Bx e l = some N → e ≤ N∧sumW l = N - e∧(∀ b ∈ l,e ≤ b.at_∧b.at_ + Af b.ord ≤ N)∧l.Pairwise apart
  | [],e,_,h=>by
    unfold Bx at h
    injection h with h
    subst h
    exact ⟨Int.le_refl _,by show (0:Int) = _; omega,by simp,List.Pairwise.nil⟩
  | b :: l,e,hw,h=>by
    unfold Bx at h
    split at h
    · rename_i he
      obtain ⟨a1,a2,a3,a4⟩:=contig_in (fun x hx=>hw x (List.mem_cons_of_mem _ hx)) h
      have wb:=hw b (by simp)
      refine ⟨by omega,by rw [sumW_cons]; omega,fun x hx=>?_,List.pairwise_cons.2 ⟨fun x hx=>?_,a4⟩⟩
      · rcases List.mem_cons.1 hx with rfl | hx
        · omega
        · have:=a3 x hx; omega
      · have:=a3 x hx
        exact meetB_f.2 (.inl (by omega))
    · cases h
def RightH (h:Heap):Prop:=buddyB h.order h.free = true∧(1 ≤ h.next∧h.next - 1 ≤ 1000000)∧h.objs.length ≤ 256 ∧
  (∀ (i:Nat) (x:Obj),h.objs[i]? = some x → 1 ≤ x.handle∧x.handle < h.next∧(∀ y:Obj,0 < i → h.objs[i - 1]? = some y → y.handle < x.handle)∧By x.words.length x.links.length = x.blk.ord∧mayR h.order x.blk = true ∧ ∀ t ∈ x.links,t = 0 ∨ t ∈ h.handles) ∧
  h.blocks.Pairwise apart∧(∀ t ∈ h.tops,t = 0 ∨ t ∈ h.handles)∧sumW h.blocks = Af h.order
theorem pw_adj : ∀ {l:List Int},(∀ (i:Nat) (x y:Int),l[i]? = some x → l[i + 1]? = some y → x < y) → l.Pairwise (· < ·)
  | [],_=>List.Pairwise.nil
  | [x],_=>List.pairwise_singleton _ _
  | x :: y :: l,h=>by
    have ih:=pw_adj (l:=y :: l) (fun i a b ha hb=>h (i + 1) a b (by simpa using ha) (by simpa using hb))
    refine List.pairwise_cons.2 ⟨fun z hz=>?_,ih⟩
    have hxy:=h 0 x y rfl rfl
    rcases List.mem_cons.1 hz with rfl | hz
    · exact hxy
    · have:=(List.pairwise_cons.1 ih).1 z hz; omega
theorem heap_right (h:Heap):Dc h = true ↔ RightH h:=by
  unfold Dc RightH
  simp only [Bool.and_eq_true,decide_eq_true_eq,Bool.not_eq_true']
  constructor
  · rintro ⟨⟨⟨⟨⟨⟨⟨h1,h2⟩,h3⟩,h4⟩,h5⟩,h6⟩,h7⟩,h8⟩
    have h2:=Bh h2
    obtain ⟨r1,r2,r3,r4⟩:=buddy_right.1 h1
    obtain ⟨a1,a2⟩:=asc_pw.1 h4
    have hw : ∀ b ∈ h.blocks,1 ≤ Af b.ord:=fun b hb=>by
      rcases List.mem_append.1 hb with hb | hb
      · obtain ⟨m1,m2,_⟩:=mayR_t.1 (r3 b hb); exact Bt m1 (by omega)
      · obtain ⟨x,hx,rfl⟩:=List.mem_map.1 hb; exact objB_pos r1.2 (List.all_eq_true.1 h5 x hx)
    have hp:=isort_perm h.blocks
    obtain ⟨c1,c2,c3,c4⟩:=contig_in (fun b hb=>hw b (hp.mem_iff.1 hb)) h6
    refine ⟨h1,by omega,h3,fun i x hx=>?_,(hp.pairwise_iff (fun h=>apart_symm h)).1 c4,fun t ht=>?_,by rw [← sumW_perm hp,c2]; omega⟩
    · have hm:=List.mem_of_getElem? hx
      have ho:=List.all_eq_true.1 h5 x hm
      unfold objB at ho
      simp only [Bool.and_eq_true,decide_eq_true_eq] at ho
      obtain ⟨⟨⟨o1,o2⟩,o3⟩,o4⟩:=ho
      have o2:=Bh o2
      have hh:=a1 x.handle (List.mem_map.2 ⟨x,hm,rfl⟩)
      have hc:=c3 x.blk (hp.mem_iff.2 (List.mem_append.2 (.inr (List.mem_map.2 ⟨x,hm,rfl⟩))))
      refine ⟨by omega,hh.2,fun y hi hy=>?_,o1,mayR_t.2 ⟨o2.1,o2.2,hc.1,by omega,o4⟩,fun t ht=>?_⟩
      · have l1:=lt_len hx
        have:=(List.pairwise_iff_getElem.1 a2) (i - 1) i (by simp [Heap.handles]; omega) (by simpa [Heap.handles] using l1) (by omega)
        have e1 : (h.objs[i - 1]'(by omega)) = y := by have := hy; rw [List.getElem?_eq_getElem (by omega)] at this; injection this
        have e2:(h.objs[i]'l1) = x:=by have:=hx; rw [List.getElem?_eq_getElem l1] at this; injection this
        simp only [Heap.handles,List.getElem_map,e1,e2] at this
        exact this
      · have:=List.any_eq_false.1 h7 t (List.mem_flatten.2 ⟨x.links,List.mem_map.2 ⟨x,hm,rfl⟩,ht⟩)
        unfold Heap.lost at this
        refine (lead_iff a2).1 ?_
        simpa using this
    · have:=List.any_eq_false.1 h8 t ht
      unfold Heap.lost at this
      refine (lead_iff a2).1 ?_
      simpa using this
  · rintro ⟨h1,h2,h3,h4,h5,h6,h7⟩
    obtain ⟨r1,r2,r3,r4⟩:=buddy_right.1 h1
    have a2:h.handles.Pairwise (· < ·):=pw_adj fun i x y hx hy=>by
      unfold Heap.handles at hx hy
      rw [List.getElem?_map] at hx hy
      cases ex:h.objs[i]? with
      | none=>rw [ex] at hx; cases hx
      | some u =>
        cases ey:h.objs[i + 1]? with
        | none=>rw [ey] at hy; cases hy
        | some v =>
          rw [ex] at hx; rw [ey] at hy
          injection hx with hx; injection hy with hy
          rw [← hx,← hy]
          exact (h4 (i + 1) v ey).2.2.1 u (by omega) ex
    have hob : ∀ x ∈ h.objs,1 ≤ x.handle∧x.handle < h.next∧By x.words.length x.links.length = x.blk.ord∧mayR h.order x.blk = true ∧ ∀ t ∈ x.links,t = 0 ∨ t ∈ h.handles:=fun x hx=>by
      obtain ⟨i,hi⟩:=List.mem_iff_getElem?.1 hx
      obtain ⟨q1,q2,_,q4,q5,q6⟩:=h4 i x hi
      exact ⟨q1,q2,q4,q5,q6⟩
    have hw : ∀ b ∈ h.blocks,1 ≤ Af b.ord∧0 ≤ b.at_∧b.at_ + Af b.ord ≤ Af h.order:=fun b hb=>by
      have hm:mayR h.order b = true:=by
        rcases List.mem_append.1 hb with hb | hb
        · exact r3 b hb
        · obtain ⟨x,hx,rfl⟩:=List.mem_map.1 hb; exact (hob x hx).2.2.2.1
      obtain ⟨m1,m2,m3,m4,_⟩:=mayR_t.1 hm
      exact ⟨Bt m1 (by omega),m3,by omega⟩
    have hp:=isort_perm h.blocks
    have hwo:=Bt (show 0 ≤ h.order by omega) r1.2
    refine ⟨⟨⟨⟨⟨⟨⟨h1,?_⟩,h3⟩,asc_pw.2 ⟨fun t ht=>?_,a2⟩⟩,List.all_eq_true.2 fun x hx=>?_⟩,?_⟩,List.any_eq_false.2 fun t ht=>?_⟩,List.any_eq_false.2 fun t ht=>?_⟩
    · simp [Az]; omega
    · obtain ⟨x,hx,rfl⟩:=List.mem_map.1 ht
      have:=hob x hx
      omega
    · obtain ⟨q1,q2,q3,q4,q5⟩:=hob x hx
      obtain ⟨m1,m2,m3,m4,m5⟩:=mayR_t.1 q4
      have w:=Bc x.blk.ord
      unfold objB
      simp only [Bool.and_eq_true,decide_eq_true_eq,Az]
      exact ⟨⟨⟨q3,by omega⟩,by omega⟩,m5⟩
    · refine cover (by omega) (fun b hb=>?_) (isort_sorted _) ((hp.pairwise_iff (fun h=>apart_symm h)).2 h5) (by rw [sumW_perm hp,h7]; omega)
      have:=hw b (hp.mem_iff.1 hb)
      omega
    · obtain ⟨ll,hl,ht⟩:=List.mem_flatten.1 ht
      obtain ⟨x,hx,rfl⟩:=List.mem_map.1 hl
      have:=(lead_iff a2).2 ((hob x hx).2.2.2.2 t ht)
      unfold Heap.lost
      simpa using this
    · have:=(lead_iff a2).2 (h6 t ht)
      unfold Heap.lost
      simpa using this
def clearB (o:Int) (xs:List Blk) (b:Blk):Bool := !(xs.any (fun x=>meetB b x)) && mayR o b
def topO (o:Int) (xs:List Blk) (at_:Int):Nat → Nat
  | 0=>0
  | j + 1=>if clearB o xs ⟨at_,((j + 1:Nat):Int)⟩ then j + 1 else topO o xs at_ j
def scanF (o:Int) (xs:List Blk):Nat → Int → List Blk
  | 0,_=>[]
  | f + 1,a=>if a < Af o then
      let j:=topO o xs a o.toNat
      (if clearB o xs ⟨a,(j:Int)⟩ then [⟨a,(j:Int)⟩] else []) ++ scanF o xs f (a + Af (j:Int))
    else []
theorem scanF_fuel {o:Int} {xs:List Blk} (h8:o ≤ 8) : ∀ (f g:Nat) (a:Int),Af o - a ≤ f → Af o - a ≤ g → scanF o xs f a = scanF o xs g a
  | 0,0,_,_,_=>rfl
  | 0,g + 1,a,h1,_=>by unfold scanF; rw [if_neg (by omega)]
  | f + 1,0,a,_,h2=>by unfold scanF; rw [if_neg (by omega)]
  | f + 1,g + 1,a,h1,h2=>by
    unfold scanF
    split
    · have hj:((topO o xs a o.toNat:Nat):Int) ≤ 8:=by
        have : ∀ j,topO o xs a j ≤ j:=by
          intro j
          induction j with
          | zero=>exact Nat.le_refl _
          | succ j ih=>unfold topO; split <;> omega
        have:=this o.toNat
        omega
      have:=Bt (o:=(topO o xs a o.toNat:Int)) (by omega) hj
      simp only
      rw [scanF_fuel h8 f g _ (by omega) (by omega)]
    · rfl
theorem topO_is {o:Int} {xs:List Blk} {a:Int} {k:Nat} : ∀ {j:Nat},k ≤ j → (∀ i:Nat,k < i → i ≤ j → clearB o xs ⟨a,(i:Int)⟩ = false) → (k = 0 ∨ clearB o xs ⟨a,(k:Int)⟩ = true) → topO o xs a j = k
  | 0,h,_,_=>by unfold topO; omega
  | j + 1,h,h1,h2=>by
    unfold topO
    by_cases e:k = j + 1
    · subst e
      rcases h2 with h2 | h2
      · omega
      · rw [if_pos h2]
    · rw [if_neg (by rw [h1 (j + 1) (by omega) (Nat.le_refl _)]; decide)]
      exact topO_is (by omega) (fun i hi hij=>h1 i hi (by omega)) h2
theorem hit_meet {o:Int} {xs:List Blk} {b:Blk} (hb:b.at_ + Af b.ord ≤ Af o):xs.any (hitB (Af o) b) = xs.any (fun x=>meetB b x):=by
  congr 1
  funext x
  unfold hitB meetB
  by_cases h:x.at_ < b.at_ + Af b.ord
  · rw [decide_eq_true h,decide_eq_true (show x.at_ ≤ Af o by omega)]; simp
  · rw [decide_eq_false h]; simp
theorem scan_left {o:Int} {xs:List Blk} (h8:o ≤ 8) : ∀ (j:Nat) (a:Int) (f:Nat),(j:Int) ≤ o → 0 ≤ a → a + Af (j:Int) ≤ Af o → a.tmod (Af (j:Int)) = 0 → Af o - a ≤ f →
    (∀ i:Nat,j < i → (i:Int) ≤ o → clearB o xs ⟨a,(i:Int)⟩ = false) → scanF o xs f a = leftB (Af o) xs 9 ⟨a,(j:Int)⟩ ++ scanF o xs f (a + Af (j:Int))
  | j,a,0,hj,h0,ha,hal,hf,hc=>by
    have:=Bt (o:=(j:Int)) (by omega) (by omega)
    omega
  | j,a,f + 1,hj,h0,ha,hal,hf,hc=>by
    have wj:=Bt (o:=(j:Int)) (by omega) (by omega)
    have ot:j ≤ o.toNat:=by omega
    have hm:mayR o ⟨a,(j:Int)⟩ = true:=mayR_t.2 ⟨by simp only; omega,hj,h0,by simp only; omega,hal⟩
    have hh:=hit_meet (o:=o) (xs:=xs) (b:=⟨a,(j:Int)⟩) ha
    cases hx:xs.any (fun x=>meetB ⟨a,(j:Int)⟩ x) with
    | false =>
      have hcl:clearB o xs ⟨a,(j:Int)⟩ = true:=by unfold clearB; rw [hx,hm]; rfl
      have htop:topO o xs a o.toNat = j:=topO_is ot (fun i hi hio=>hc i hi (by omega)) (.inr hcl)
      have e1:leftB (Af o) xs 9 ⟨a,(j:Int)⟩ = [⟨a,(j:Int)⟩]:=by unfold leftB; rw [hh,hx]; rfl
      have e2:scanF o xs (f + 1) (a + Af (j:Int)) = scanF o xs f (a + Af (j:Int)):=scanF_fuel h8 _ _ _ (by omega) (by omega)
      rw [e1,e2]
      conv=>lhs; unfold scanF
      rw [if_pos (by omega)]
      simp only [htop,hcl,if_true]
    | true =>
      have hcl:clearB o xs ⟨a,(j:Int)⟩ = false:=by unfold clearB; rw [hx]; rfl
      cases j with
      | zero =>
        have htop:topO o xs a o.toNat = 0:=topO_is (Nat.zero_le _) (fun i hi hio=>hc i hi (by omega)) (.inl rfl)
        have e1:leftB (Af o) xs 9 ⟨a,((0:Nat):Int)⟩ = []:=by unfold leftB; rw [hh,hx]; rfl
        have e2:scanF o xs (f + 1) (a + Af ((0:Nat):Int)) = scanF o xs f (a + Af ((0:Nat):Int)):=scanF_fuel h8 _ _ _ (by omega) (by omega)
        rw [e1,e2]
        conv=>lhs; unfold scanF
        rw [if_pos (by omega)]
        simp only [htop,hcl]
        rfl
      | succ j =>
        have ej:(((j + 1:Nat):Int)) - 1 = (j:Int):=by omega
        have wh:=wordsI_half (o:=((j + 1:Nat):Int)) (by omega) (by omega)
        rw [ej] at wh
        have wj':=Bt (o:=(j:Int)) (by omega) (by omega)
        have e1:leftB (Af o) xs 9 ⟨a,((j + 1:Nat):Int)⟩ = leftB (Af o) xs 9 ⟨a,(j:Int)⟩ ++ leftB (Af o) xs 9 ⟨a + Af (j:Int),(j:Int)⟩:=by
          conv=>lhs; unfold leftB
          rw [hh,hx,if_pos rfl,if_pos (show ((j + 1:Nat):Int) > 0 by omega)]
          simp only [ej]
          rw [leftB_fuel (Af o) xs 8 9 ⟨a,(j:Int)⟩ (by simp only; omega) (by simp only; omega) (by simp only; omega),leftB_fuel (Af o) xs 8 9 ⟨a + Af (j:Int),(j:Int)⟩ (by simp only; omega) (by simp only; omega) (by simp only; omega)]
        have hal0:(Af (j:Int)) ∣ a:=by
          have h1:=Int.dvd_of_tmod_eq_zero hal
          rw [wh] at h1
          exact Int.dvd_trans ⟨2,by omega⟩ h1
        have hal1 : ¬ (2 * Af (j:Int)) ∣ (a + Af (j:Int)):=fun h=>by
          have h1:=Int.dvd_of_tmod_eq_zero hal
          rw [wh,show Af (j:Int) + Af (j:Int) = 2 * Af (j:Int) by omega] at h1
          have h2:=(Int.dvd_add_right h1).1 h
          have:=Int.le_of_dvd (by omega) h2
          omega
        rw [e1,wh]
        rw [scan_left h8 j a (f + 1) (by omega) h0 (by omega) (Int.tmod_eq_zero_of_dvd hal0) hf (fun i hi hio=>by
          by_cases e:i = j + 1
          · subst e; exact hcl
          · exact hc i (by omega) hio)]
        rw [scan_left h8 j (a + Af (j:Int)) (f + 1) (by omega) (by omega) (by omega) (Int.tmod_eq_zero_of_dvd (Int.dvd_add hal0 (Int.dvd_refl _))) (by omega) (fun i hi hio=>by
          unfold clearB
          rw [Bool.and_eq_false_iff]
          right
          cases hmm:mayR o ⟨a + Af (j:Int),(i:Int)⟩ with
          | false=>rfl
          | true =>
            exfalso
            have h5:=(mayR_t.1 hmm).2.2.2.2
            simp only at h5
            have h6:=Int.dvd_of_tmod_eq_zero h5
            refine hal1 (Int.dvd_trans ?_ h6)
            have : ∀ i:Nat,i < 9 → ∀ j:Nat,j < 9 → j < i → (Af (i:Int)).tmod (2 * Af (j:Int)) = 0:=by decide +kernel
            exact Int.dvd_of_tmod_eq_zero (this i (by omega) j (by omega) hi))]
        rw [List.append_assoc,show a + Af (j:Int) + Af (j:Int) = a + (Af (j:Int) + Af (j:Int)) by omega]
theorem scan_is {o:Int} {xs:List Blk} (h0:0 ≤ o) (h8:o ≤ 8) (f:Nat) (hf:256 ≤ f):scanF o xs f 0 = Dq (Af o) xs [⟨0,o⟩]:=by
  have eo:((o.toNat:Nat):Int) = o:=Int.toNat_of_nonneg h0
  have wo:=Bc o
  have h:=scan_left (xs:=xs) h8 o.toNat 0 f (by omega) (Int.le_refl _) (by rw [eo]; omega) (by simp) (by omega) (fun i hi hio=>by omega)
  rw [h,eo]
  have e:scanF o xs f (0 + Af o) = []:=by
    cases f with
    | zero=>rfl
    | succ f=>unfold scanF; rw [if_neg (by omega)]
  rw [e,List.append_nil]
  simp [Dq]
theorem rows_right : ∀ {l:List Row} {last:Int},rowsB last l = true ↔ (∀ (i:Nat) (x:Row),l[i]? = some x → last < x.client∧x.client ≤ 4∧(1 ≤ x.seq∧x.seq ≤ 1000000)∧(0 ≤ x.code∧x.code ≤ 65535) ∧ ∀ y:Row,0 < i → l[i - 1]? = some y → y.client < x.client)
  | [],last=>by simp [rowsB]
  | r :: l,last=>by
    unfold rowsB
    simp only [Bool.and_eq_true,decide_eq_true_eq]
    rw [rows_right (l:=l)]
    constructor
    · rintro ⟨⟨⟨⟨⟨⟨h1,h2⟩,h3⟩,h4⟩,h5⟩,h6⟩,h7⟩ i x hx
      cases i with
      | zero=>simp at hx; subst hx; exact ⟨h1,h2,⟨h3,h4⟩,⟨h5,h6⟩,fun y hy=>by omega⟩
      | succ i =>
        simp at hx
        obtain ⟨a1,a2,a3,a4,a5⟩:=h7 i x hx
        refine ⟨by omega,a2,a3,a4,fun y _ hy=>?_⟩
        cases i with
        | zero=>simp at hy; subst hy; exact a1
        | succ i=>simp at hy; exact a5 y (by omega) (by simpa using hy)
    · intro h
      obtain ⟨a1,a2,a3,a4,_⟩:=h 0 r rfl
      refine ⟨⟨⟨⟨⟨⟨a1,a2⟩,a3.1⟩,a3.2⟩,a4.1⟩,a4.2⟩,fun i x hx=>?_⟩
      obtain ⟨b1,b2,b3,b4,b5⟩:=h (i + 1) x (by simpa using hx)
      have key : ∀ (i:Nat) (x:Row),l[i]? = some x → r.client < x.client:=by
        intro i
        induction i with
        | zero=>intro x hx; exact (h 1 x (by simpa using hx)).2.2.2.2 r (by omega) rfl
        | succ i ih =>
          intro x hx
          have hlt:i < l.length:=by have:=lt_len hx; omega
          have h1:=ih _ (List.getElem?_eq_getElem hlt)
          have h2:=(h (i + 2) x (by simpa using hx)).2.2.2.2 l[i] (by omega) (by show l[i]? = some _; exact List.getElem?_eq_getElem hlt)
          omega
      refine ⟨key i x hx,b2,b3,b4,fun y hi hy=>b5 y (by omega) ?_⟩
      cases i with
      | zero=>omega
      | succ i=>simpa using hy
end Go.Eng
