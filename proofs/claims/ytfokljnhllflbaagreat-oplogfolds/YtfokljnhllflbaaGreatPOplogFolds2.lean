/- Part 3 of the proof of OplogFolds: C5, C6, C7, C8, C9, C10, C11, C12, C13, C14. -/
import Derived.Deep.Quiet
import Derived.Ground.NamesProg
import Derived.Ground.SlgcProg
import Derived.Ground.SlsfProg
import Derived.JoinedOf
import Derived.Laws.BytesString
import Derived.Laws.MakeOwn
import Derived.Laws.Strings
import Derived.Lib.AppendZeros
import Derived.Lib.ConvBytes
import Derived.Lib.Overlaps
import Derived.Maps.AppendAt
import Derived.OrdersHeld
import Derived.ProofKit
import Derived.Recover
import Derived.ScopeJumps
import Derived.Shelf.SlSortCmp.NoneTotal
import Derived.Shelf.SlSortCmp.WholeK
import Derived.Shelf.SlicesG.Cmp
import Derived.Shelf.Small.Bits
import Derived.Sort.OwnSortedInts
import Derived.StillTail
import Derived.Test.YtfokljnhllflbaaGreatProg
import Derived.WalkKit
import Derived.WalkLawsBesides
import Derived.WalkSpells
import Derived.Test.YtfokljnhllflbaaGreatPOplogFolds1
set_option linter.unusedSimpArgs false
set_option linter.unusedVariables false
namespace Go.Proofs.YtfokljnhllflbaaGreat
open Go Go.Eng Go.RowKit Go.Proofs.Tryz
set_option maxHeartbeats 4000000 in
set_option maxRecDepth 20000 in
theorem heapCheck_ (w:World) (B:Nat) (rh:RHeap) (ros:List RObj) (h:Heap) (H:HeapR w B rh ros h) (hB:B ≤ w.heap.size):Ret prog 140 [(.agg (rh.cells).toArray)] w (fun v w'=>v = .int .i64 (if Dc h then 0 else 1)∧w.grownBy w' none):=by
  have hord:=H.order
  have hnx:=H.next
  have hfn:=H.fn
  have hfm:=H.fm
  have hon:=H.objs.n
  have hom:=H.objs.m
  have hol:=H.objs.len
  refine aP func140 Z Z Z ?_
  refine cT (bH (cs:=rh.cells) Z Z Z ?_)
  intro w1 b2 hb3 hz4 g5 o6
  refine za (J 0) Z (cS (aD (aD (aW (fun wq=>World.grownBy w1 wq none) Tryz.mixed (by kernel_rfl) ⟨Z,rfl,rfl,Nat.le_refl _,fun _ _ _=>rfl⟩ (QL.go Z Z Z (fun wq gq=>fa47_0 (b:=⟨b2,0,none⟩) Z Z) (QL.go Z Z Z (fun wq gq=>bW Z (Ax Bw (Ob.cell (v:=(J rh.order)) (o6.st0 gq) Z))) (QL.go Z Z Z (fun wq gq=>fa47_4 (b:=⟨b2,7,none⟩) Z Z) (QL.go Z Z Z (fun wq gq=>bW Z (Ax lo45 (Ob.cell (v:=(.slice rh.free.a rh.free.n rh.free.c)) (o6.st0 gq) Z))) (QL.call (v:=(J (if buddyB rh.order h.free then 0 else 1))) call199 (fun wq gq=>(bcheck_ wq rh.order _ ⟨rh.free.a,rh.free.n,rh.free.c⟩ h.free (by first | assumption | omega) (by omega) (((H.st0 g5).st0 gq).fr) (by first | assumption | omega | (have:=gq.size; omega))).mono (fun _ _ hh=>⟨hh.1,Ac gq hh.2⟩)) Z Z Z ?_)))))))))
  refine QL.br (p:=((if buddyB rh.order h.free then 0 else 1):Int) ≠ (0:Int)) Z Z Z (fun r hr wq gq=>bQ Z Z hr) (fun h7=>?_) (fun h7=>?_)
  ·refine QL.go Z Z Z (fun wq gq=>aX (v:=bT) Z) (QL.out Z Z Z (QL.out Z Z Z (QL.out Z Z Z (QL.out Z Z Z (QL.go Z Z Z (fun wq gq=>aZ (v:=bT) Z Z) (QL.go Z Z Z (fun wq gq=>aX (v:=bT) Z) (QL.out Z Z Z (QL.out Z Z Z (QL.out Z Z Z (QL.out Z Z Z ?_))))))))))
   refine QL.out Z Z Z (QL.go Z Z Z (fun wq gq=>aZ (v:=bT) Z Z) (QL.nil ?_))
   intro w8 g9
   have z10:=g9.size
   refine aQ (aE Z (cT (za (J 1) Z (cS (aB (aR (aO (v:=(J 1)) (Ba Z Z) ?_)))))))
   have hno:Dc h = false:=heapB_no (by
     first | exact .inl (by rw [← hord]; exact ite_ne0 (by assumption)) | exact .inr (.inl (by rw [← hnx]; assumption)) | exact .inr (.inr (.inl (by have hw8:Af 8 = 256:=(by decide); omega))))
   exact ⟨Bi (by rw [hno]; rfl),(Ac (g5) g9)⟩
  ·refine QL.go Z Z Z (fun wq gq=>aX (v:=bF) Z) (QL.go Z Z Z (fun wq gq=>fa47_2 (b:=⟨b2,2,none⟩) Z Z) (QL.go Z Z Z (fun wq gq=>bW Z (Ax Bw (Ob.cell (v:=(J rh.next)) (o6.st0 gq) Z))) (QL.call (v:=(.bool (Az rh.next 1 1000001))) call200 (fun wq gq=>(within_heap wq rh.next 1 1000001).mono (fun _ _ hh=>⟨hh.1,hh.2 ▸ gq⟩)) Z Z Z ?_)))
   rcases hb12:(Az rh.next 1 1000001) with _ | _
   ·refine QL.go Z Z Z (fun wq gq=>bC (b:=false) Z) (QL.go Z Z Z (fun wq gq=>bA (v:=bT) Z Z) (QL.go Z Z Z (fun wq gq=>aX (v:=bT) Z) (QL.out Z Z Z (QL.out Z Z Z (QL.out Z Z Z (QL.out Z Z Z (QL.out Z Z Z (QL.go Z Z Z (fun wq gq=>aZ (v:=bT) Z Z) (QL.nil ?_)))))))))
    intro w13 g14
    have z15:=g14.size
    refine aQ (aE Z (cT (za (J 1) Z (cS (aB (aR (aO (v:=(J 1)) (Ba Z Z) ?_)))))))
    have hno:Dc h = false:=heapB_no (by
      first | exact .inl (by rw [← hord]; exact ite_ne0 (by assumption)) | exact .inr (.inl (by rw [← hnx]; assumption)) | exact .inr (.inr (.inl (by have hw8:Af 8 = 256:=(by decide); omega))))
    exact ⟨Bi (by rw [hno]; rfl),(Ac (g5) g14)⟩
   ·have hw11:=Bh hb12
    refine QL.go Z Z Z (fun wq gq=>bC (b:=true) Z) (QL.go Z Z Z (fun wq gq=>bA (v:=bF) Z Z) (QL.go Z Z Z (fun wq gq=>aX (v:=bF) Z) (QL.go Z Z Z (fun wq gq=>fa47_1 (b:=⟨b2,1,none⟩) Z Z) (QL.go Z Z Z (fun wq gq=>bW Z (Ax lo43 (Ob.cell (v:=(.slice rh.objs.a rh.objs.n rh.objs.c)) (o6.st0 gq) Z))) (QL.go Z Z Z (fun wq gq=>bR underlying43 Z) ?_)))))
    have wb16:=Bc 8
    refine QL.call (v:=(J (Af 8))) call201 (fun wq gq=>(words_ wq 8).mono (fun _ _ hh=>⟨hh.1,hh.2 ▸ gq⟩)) Z Z Z ?_
    refine QL.br (p:=(Af 8:Int) < ((rh.objs.n:Nat):Int)) Z Z Z (fun r hr wq gq=>bN Z Z hr) (fun h17=>?_) (fun h17=>?_)
    ·refine QL.go Z Z Z (fun wq gq=>bA (v:=bT) Z Z) (QL.nil ?_)
     intro w18 g19
     have z20:=g19.size
     refine aQ (aE Z (cT (za (J 1) Z (cS (aB (aR (aO (v:=(J 1)) (Ba Z Z) ?_)))))))
     have hno:Dc h = false:=heapB_no (by
       first | exact .inl (by rw [← hord]; exact ite_ne0 (by assumption)) | exact .inr (.inl (by rw [← hnx]; assumption)) | exact .inr (.inr (.inl (by have hw8:Af 8 = 256:=(by decide); omega))))
     exact ⟨Bi (by rw [hno]; rfl),(Ac (g5) g19)⟩
    ·refine QL.go Z Z Z (fun wq gq=>bA (v:=bF) Z Z) (QL.nil ?_)
     intro w21 g22
     have z23:=g22.size
     refine aQ (aF Z (aA (aQ (cT ?_))))
     have hbu:buddyB h.order h.free = true:=by rw [← hord]; exact ite_eq0 h7
     have hbud:=buddyB_len hbu
     refine za (J 0) Z (cS (aD (cT (zg Z (fa47_1 (b:=⟨b2,1,none⟩) Z Z) ?_))))
     have o24:=(o6.st0 g22)
     refine zl (.slice rh.objs.a rh.objs.n rh.objs.c) lo43 o24 Z (zg Z (bR underlying43 Z) (zm (J 0) Z (cS (aG ?_))))
     refine aK (fun t=>(Nat.ble 2 t && Nat.ble t 3) || Nat.beq t 5 || (Nat.ble 37 t && Nat.ble t 54)) (fun n ρ wl => ∃ (k:Nat) (last:Int),ρ 37 = (J (k:Int))∧ρ 3 = (J last)∧n = ros.length - k∧World.grownBy w21 wl none∧k ≤ ros.length∧ascB rh.next last ((hds ros).drop k) = ascB rh.next 0 (hds ros)) (ros.length) ?aa0 ?bb0
     case aa0=>exact ⟨0,0,rfl,rfl,rfl,Bs _ _,Nat.zero_le _,rfl⟩
     case bb0 =>
      rintro n27 ρ0 w25 ho28 ⟨k,last,hs0_37,hs0_3,hn0,g26,hk1,hasc⟩
      obtain ⟨j0,rfl⟩:=ho28.shape2 hs0_37 hs0_3
      clear ho28 hs0_37 hs0_3
      subst hn0
      have z29:=g26.size
      refine cT ?_
      refine zc (((k:Int):Int) < ((rh.objs.n:Nat):Int)) Z (fun r hr=>bL Z Z hr) (fun h30=>?_) (fun h30=>?_)
      ·refine cS (aD (aE Z (aA (aQ (aD (aG (cT ?_)))))))
       have h31:=(((H.st0 g5).st0 g22).st0 g26)
       obtain ⟨e32,he33⟩ : ∃ e,(ros)[k]? = some e:=⟨_,List.getElem?_eq_getElem (by omega)⟩
       obtain ⟨ad34,hA35,hB36,c37⟩:=h31.objs.rd.at_ (Cj he33)
       have hl38:=Eng.lt_len (Cj he33)
       refine zg Z (bS (b:=ad34.add (k * 5)) (i:=k) underlying43 sizeOf136 (by rw [← hA35]; rfl) Z (by omega) (by omega) Z) (zg Z (bW Z (Aj (cs:=e32.cells) wh136 c37)) (bG (cs:=[(J 0),(J 0),(J 0),(.slice none 0 0),(.slice none 0 0)]) zeroValue136 Z Z Z ?_))
       intro w39 b40 hb41 hz42 g43 o44
       refine bE (vs:=e32.cells) (cs':=e32.cells) sizeOf136 o44 Z Z Z Z Z Z ?_
       intro w45 hz46 g47 o48
       refine cS (aD (cT (zg Z (fa136_0 (b:=⟨b40,0,none⟩) Z Z) (zl (J e32.handle) Bw o48 Z (zm (J last) Z ?_)))))
       refine zc ((e32.handle:Int) ≤ (last:Int)) Z (fun r hr=>bM Z Z hr) (fun h49=>?_) (fun h49=>?_)
       ·refine zm bT Z (zo Z (zo Z (zo Z (zo Z (zo Z (zT bT Z (cS (aE Z (cT (za (J 1) Z (cS (aB (aR (inB.r (aR (aR (inB.r (aR (aO (v:=(J 1)) (Ba Z Z) ?_)))))))))))))))))))
        have hno:Dc h = false:=heapB_no (by
          exact .inr (.inr (.inr (.inl (by rw [← hnx,← H.hds]; exact asc_no hasc he33 (by first | exact .inl (by assumption) | exact .inr (by assumption)))))))
        exact ⟨Bi (by rw [hno]; rfl),(Bb (Ac (Ac (Ac (g5) g22) g26) g43) g47 (by omega))⟩
       ·refine zm bF Z (zg Z (fa136_0 (b:=⟨b40,0,none⟩) Z Z) (zl (J e32.handle) Bw o48 Z (zg Z (fa47_2 (b:=⟨b2,2,none⟩) Z Z) ?_)))
        have o50:=(((o24.st0 g26).st0 g43).st1 g47 (by omega))
        refine zl (J rh.next) Bw o50 Z ?_
        refine zc ((rh.next:Int) ≤ (e32.handle:Int)) Z (fun r hr=>bO Z Z hr) (fun h51=>?_) (fun h51=>?_)
        ·refine zF bT Z (cS (aE Z (cT (za (J 1) Z (cS (aB (aR (inB.r (aR (aR (inB.r (aR (aO (v:=(J 1)) (Ba Z Z) ?_)))))))))))))
         have hno:Dc h = false:=heapB_no (by
           exact .inr (.inr (.inr (.inl (by rw [← hnx,← H.hds]; exact asc_no hasc he33 (by first | exact .inl (by assumption) | exact .inr (by assumption)))))))
         exact ⟨Bi (by rw [hno]; rfl),(Bb (Ac (Ac (Ac (g5) g22) g26) g43) g47 (by omega))⟩
        ·refine zF bF Z (cS (aF Z (aA (aQ (aL (zg Z (fa136_0 (b:=⟨b40,0,none⟩) Z Z) (zl (J e32.handle) Bw o48 Z (za (J e32.handle) Z (aM (inB.n (aQ (aL (zg Z (bI (r:=(k:Int) + 1) Z Z (Dl (by omega) (by omega))) (zm (J ((k:Int) + 1)) Z (cS ?_)))))))))))))))
         refine ⟨(by repeat (first | exact aJ _ _ | exact aH _ _ | refine aI ?_ Z _)),_,?_,⟨k + 1,_,rfl,rfl,rfl,(Bb (Ac (g26) g43) g47 (by omega)),by omega,asc_go hasc he33 (by assumption) (by assumption)⟩⟩
         omega
      ·refine cS (aD (aF Z (aC (aS (aS (Bo (aQ (cT ?_))))))))
       have hasce:=asc_end hasc (by omega)
       refine za (.slice none 0 0) Z (cS (cT (zg Z (fa47_4 (b:=⟨b2,7,none⟩) Z Z) ?_)))
       have o52:=(o24.st0 g26)
       refine zl (.slice rh.free.a rh.free.n rh.free.c) lo45 o52 Z ?_
       have h53:=(((H.st0 g5).st0 g22).st0 g26)
       refine aU call202 (cloneBlk _ _ _ _ _ _ h53.fr (by omega) (by omega)) Z Z Z ?_
       rintro _ w57 ⟨A54,c55,rfl,g58,ow56⟩
       have z59:=g58.size
       refine za (.slice A54 rh.free.n c55) Z (cS (aD (cT (zg Z (fa47_1 (b:=⟨b2,1,none⟩) Z Z) ?_))))
       have o60:=(o52.st0 g58)
       refine zl (.slice rh.objs.a rh.objs.n rh.objs.c) lo43 o60 Z (zg Z (bR underlying43 Z) (zm (J 0) Z (cS (aG ?_))))
       refine aK (fun t=>Nat.beq t 2 || (Nat.ble 6 t && Nat.ble t 7) || (Nat.ble 9 t && Nat.ble t 10) || (Nat.ble 61 t && Nat.ble t 111)) (fun n ρ wl => ∃ (k:Nat) (A6 A7:Option Addr) (n6 n7 c6 c7:Nat) (ls:List Int) (bs:List Blk),ρ 61 = (J (k:Int))∧ρ 6 = (.slice A6 n6 c6)∧ρ 7 = (.slice A7 n7 c7)∧n = ros.length - k∧World.grownBy w wl none∧k ≤ ros.length∧ls = ((h.objs.take k).map Obj.links).flatten∧bs = h.free ++ (h.objs.take k).map Obj.blk∧n6 = ls.length∧n6 ≤ 16 * k∧n7 = bs.length∧n7 ≤ 257 + k∧(h.objs.take k).all (objB h.order) = true∧Ow wl w.heap.size 3 1 A6 c6 (ics ls)∧Ow wl w.heap.size 133 2 A7 c7 (Cq bs)∧Ob wl b2 47 rh.cells) (ros.length) ?aa1 ?bb1
       case aa1=>exact ⟨0,none,_,0,rh.free.n,0,_,[],h.free,rfl,rfl,rfl,rfl,(Ac (Ac (Ac (g5) g22) g26) g58),Nat.zero_le _,by simp,by simp,rfl,by omega,hfn,by omega,by simp,Ow.nil_ _ _ _ _,ow56.weak (by omega),o60⟩
       case bb1 =>
        rintro n63 ρ1 w61 ho65 ⟨k,A6,A7,n6,n7,c6,c7,ls,bs,hs1_61,hs1_6,hs1_7,hn1,g62,hk2,hls,hbs,hn6,hm6,hn7,hm7,hall,ow6,ow7,hbx⟩
        obtain ⟨j1,rfl⟩:=ho65.shape3 hs1_61 hs1_6 hs1_7
        clear ho65 hs1_61 hs1_6 hs1_7
        subst hn1
        have z66:=g62.size
        have hbl:=hbx.lt
        refine cT ?_
        refine zc (((k:Int):Int) < ((rh.objs.n:Nat):Int)) Z (fun r hr=>bL Z Z hr) (fun h67=>?_) (fun h67=>?_)
        ·refine cS (aD (aE Z (aA (aQ (aD (aG (cT ?_)))))))
         have h68:=(H.st0 g62)
         obtain ⟨e69,he70⟩ : ∃ e,ros[k]? = some e:=⟨_,List.getElem?_eq_getElem (by omega)⟩
         obtain ⟨o71,ho72⟩ : ∃ e,h.objs[k]? = some e:=⟨_,List.getElem?_eq_getElem (by omega)⟩
         have oR73:=h68.objs.all k e69 o71 he70 ho72
         have e1:=oR73.wl
         have e2:=oR73.ll
         have e3:=oR73.b
         have e4:=oR73.wm
         have e5:=oR73.lm
         obtain ⟨ad74,hA75,hB76,c77⟩:=h68.objs.rd.at_ (Cj he70)
         have hl78:=Eng.lt_len (Cj he70)
         refine zg Z (bS (b:=ad74.add (k * 5)) (i:=k) underlying43 sizeOf136 (by rw [← hA75]; rfl) Z (by omega) (by omega) Z) (zg Z (bW Z (Aj (cs:=e69.cells) wh136 c77)) (bG (cs:=[(J 0),(J 0),(J 0),(.slice none 0 0),(.slice none 0 0)]) zeroValue136 Z Z Z ?_))
         intro w79 b80 hb81 hz82 g83 o84
         refine bE (vs:=e69.cells) (cs':=e69.cells) sizeOf136 o84 Z Z Z Z Z Z ?_
         intro w85 hz86 g87 o88
         refine cS (cT (zg Z (fa136_1 (b:=⟨b80,1,none⟩) Z Z) (zg Z (bW Z (Aj (cs:=[(J e69.blk.at_),(J e69.blk.ord)]) wh133 (o88.sub 1 2))) (bG (cs:=[(J 0),(J 0)]) zeroValue133 Z Z Z ?_))))
         intro w89 b90 hb91 hz92 g93 o94
         refine bE (vs:=[(J e69.blk.at_),(J e69.blk.ord)]) (cs':=[(J e69.blk.at_),(J e69.blk.ord)]) sizeOf133 o94 Z Z Z Z Z Z ?_
         intro w95 hz96 g97 o98
         refine cS (aD (aD (aW (fun wq=>World.grownBy w95 wq none) Tryz.mixed (by kernel_rfl) ⟨Z,rfl,rfl,Nat.le_refl _,fun _ _ _=>rfl⟩ (QL.go Z Z Z (fun wq gq=>fa136_2 (b:=⟨b80,3,none⟩) Z Z) (QL.go Z Z Z (fun wq gq=>bW Z (Ax lo134 (Ob.cell (v:=(.slice e69.words.a e69.words.n e69.words.c)) (((o88.st0 g93).st1 g97 (by omega)).st0 gq) Z))) (QL.go Z Z Z (fun wq gq=>bR underlying134 Z) (QL.go Z Z Z (fun wq gq=>fa136_3 (b:=⟨b80,4,none⟩) Z Z) (QL.go Z Z Z (fun wq gq=>bW Z (Ax lo134 (Ob.cell (v:=(.slice e69.links.a e69.links.n e69.links.c)) (((o88.st0 g93).st1 g97 (by omega)).st0 gq) Z))) (QL.go Z Z Z (fun wq gq=>bR underlying134 Z) ?_)))))))))
         have nb99:=needI_bd (e69.words.n:Nat) (e69.links.n:Nat)
         refine QL.call (v:=(J (By (e69.words.n:Nat) (e69.links.n:Nat)))) call203 (fun wq gq=>(need_ wq (e69.words.n:Nat) (e69.links.n:Nat) (by omega) (by omega)).mono (fun _ _ hh=>⟨hh.1,Ac gq hh.2⟩)) Z Z Z (QL.go Z Z Z (fun wq gq=>Cg (b:=⟨b90,1,none⟩) Z Z) (QL.go Z Z Z (fun wq gq=>bW Z (Ax Bw (Ob.cell (v:=(J e69.blk.ord)) (o98.st0 gq) Z))) ?_))
         refine QL.br (p:=(By (e69.words.n:Nat) (e69.links.n:Nat):Int) ≠ (e69.blk.ord:Int)) Z Z Z (fun r hr wq gq=>bQ Z Z hr) (fun h100=>?_) (fun h100=>?_)
         ·refine QL.go Z Z Z (fun wq gq=>aX (v:=bT) Z) (QL.out Z Z Z (QL.out Z Z Z (QL.out Z Z Z (QL.out Z Z Z (QL.out Z Z Z (QL.out Z Z Z (QL.go Z Z Z (fun wq gq=>aZ (v:=bT) Z Z) (QL.go Z Z Z (fun wq gq=>aX (v:=bT) Z) (QL.out Z Z Z (QL.out Z Z Z ?_))))))))))
          refine QL.out Z Z Z (QL.out Z Z Z (QL.out Z Z Z (QL.out Z Z Z (QL.out Z Z Z (QL.go Z Z Z (fun wq gq=>aZ (v:=bT) Z Z) (QL.go Z Z Z (fun wq gq=>aX (v:=bT) Z) (QL.out Z Z Z (QL.out Z Z Z (QL.out Z Z Z (QL.out Z Z Z ?_))))))))))
          refine QL.out Z Z Z (QL.out Z Z Z (QL.out Z Z Z (QL.go Z Z Z (fun wq gq=>aZ (v:=bT) Z Z) (QL.nil ?_))))
          intro w101 g102
          have z103:=g102.size
          refine aQ (aE Z (cT (za (J 1) Z (cS (aB (aR (inB.r (aR (aR (inB.r (aR (aO (v:=(J 1)) (Ba Z Z) ?_))))))))))))
          have hno:Dc h = false:=heapB_no (by
            refine .inr (.inr (.inr (.inr (.inl (Eng.all_no ho72 ?_)))))
            unfold objB
            rw [← e1,← e2,← e3,← hord]
            first | (rw [decide_eq_false (by omega)]; simp; done) | (rw [h100]; simp; done) | (rw [decide_eq_false (p:=(Int.tmod _ _ = 0)) (by assumption)]; simp; done))
          exact ⟨Bi (by rw [hno]; rfl),(Ac (Bb (Ac (Bb (Ac (g62) g83) g87 (by omega)) g93) g97 (by omega)) g102)⟩
         ·refine QL.go Z Z Z (fun wq gq=>aX (v:=bF) Z) (QL.go Z Z Z (fun wq gq=>Cg (b:=⟨b90,1,none⟩) Z Z) (QL.go Z Z Z (fun wq gq=>bW Z (Ax Bw (Ob.cell (v:=(J e69.blk.ord)) (o98.st0 gq) Z))) (QL.go Z Z Z (fun wq gq=>fa47_0 (b:=⟨b2,0,none⟩) Z Z) (QL.go Z Z Z (fun wq gq=>bW Z (Ax Bw (Ob.cell (v:=(J rh.order)) (((((hbx.st0 g83).st1 g87 (by omega)).st0 g93).st1 g97 (by omega)).st0 gq) Z))) (QL.call (v:=(.bool (Az e69.blk.ord 0 rh.order))) call200 (fun wq gq=>(within_heap wq e69.blk.ord 0 rh.order).mono (fun _ _ hh=>⟨hh.1,hh.2 ▸ gq⟩)) Z Z Z ?_)))))
          rcases hb105:(Az e69.blk.ord 0 rh.order) with _ | _
          ·refine QL.go Z Z Z (fun wq gq=>bC (b:=false) Z) (QL.go Z Z Z (fun wq gq=>bA (v:=bT) Z Z) (QL.go Z Z Z (fun wq gq=>aX (v:=bT) Z) (QL.out Z Z Z (QL.out Z Z Z (QL.out Z Z Z (QL.out Z Z Z (QL.out Z Z Z (QL.out Z Z Z (QL.out Z Z Z (QL.go Z Z Z (fun wq gq=>aZ (v:=bT) Z Z) ?_))))))))))
           refine QL.go Z Z Z (fun wq gq=>aX (v:=bT) Z) (QL.out Z Z Z (QL.out Z Z Z (QL.out Z Z Z (QL.out Z Z Z (QL.out Z Z Z (QL.out Z Z Z (QL.out Z Z Z (QL.go Z Z Z (fun wq gq=>aZ (v:=bT) Z Z) (QL.nil ?_)))))))))
           intro w106 g107
           have z108:=g107.size
           refine aQ (aE Z (cT (za (J 1) Z (cS (aB (aR (inB.r (aR (aR (inB.r (aR (aO (v:=(J 1)) (Ba Z Z) ?_))))))))))))
           have hno:Dc h = false:=heapB_no (by
             refine .inr (.inr (.inr (.inr (.inl (Eng.all_no ho72 ?_)))))
             unfold objB
             rw [← e1,← e2,← e3,← hord]
             first | (rw [decide_eq_false (by omega)]; simp; done) | (rw [hb105]; simp; done) | (rw [decide_eq_false (p:=(Int.tmod _ _ = 0)) (by assumption)]; simp; done))
           exact ⟨Bi (by rw [hno]; rfl),(Ac (Bb (Ac (Bb (Ac (g62) g83) g87 (by omega)) g93) g97 (by omega)) g107)⟩
          ·have hw104:=Bh hb105
           refine QL.go Z Z Z (fun wq gq=>bC (b:=true) Z) (QL.go Z Z Z (fun wq gq=>bA (v:=bF) Z Z) (QL.go Z Z Z (fun wq gq=>aX (v:=bF) Z) (QL.go Z Z Z (fun wq gq=>Cs (b:=⟨b90,0,none⟩) Z Z) (QL.go Z Z Z (fun wq gq=>bW Z (Ax Bw (Ob.cell (v:=(J e69.blk.at_)) (o98.st0 gq) Z))) (QL.go Z Z Z (fun wq gq=>fa47_0 (b:=⟨b2,0,none⟩) Z Z) (QL.go Z Z Z (fun wq gq=>bW Z (Ax Bw (Ob.cell (v:=(J rh.order)) (((((hbx.st0 g83).st1 g87 (by omega)).st0 g93).st1 g97 (by omega)).st0 gq) Z))) ?_))))))
           have wb109:=Bc rh.order
           refine QL.call (v:=(J (Af rh.order))) call201 (fun wq gq=>(words_ wq rh.order).mono (fun _ _ hh=>⟨hh.1,hh.2 ▸ gq⟩)) Z Z Z (QL.call (v:=(.bool (Az e69.blk.at_ 0 (Af rh.order)))) call200 (fun wq gq=>(within_heap wq e69.blk.at_ 0 (Af rh.order)).mono (fun _ _ hh=>⟨hh.1,hh.2 ▸ gq⟩)) Z Z Z ?_)
           rcases hb111:(Az e69.blk.at_ 0 (Af rh.order)) with _ | _
           ·refine QL.go Z Z Z (fun wq gq=>bC (b:=false) Z) (QL.go Z Z Z (fun wq gq=>bA (v:=bT) Z Z) (QL.go Z Z Z (fun wq gq=>aX (v:=bT) Z) (QL.out Z Z Z (QL.out Z Z Z (QL.out Z Z Z (QL.out Z Z Z (QL.out Z Z Z (QL.out Z Z Z (QL.out Z Z Z (QL.go Z Z Z (fun wq gq=>aZ (v:=bT) Z Z) ?_))))))))))
            refine QL.nil ?_
            intro w112 g113
            have z114:=g113.size
            refine aQ (aE Z (cT (za (J 1) Z (cS (aB (aR (inB.r (aR (aR (inB.r (aR (aO (v:=(J 1)) (Ba Z Z) ?_))))))))))))
            have hno:Dc h = false:=heapB_no (by
              refine .inr (.inr (.inr (.inr (.inl (Eng.all_no ho72 ?_)))))
              unfold objB
              rw [← e1,← e2,← e3,← hord]
              first | (rw [decide_eq_false (by omega)]; simp; done) | (rw [hb111]; simp; done) | (rw [decide_eq_false (p:=(Int.tmod _ _ = 0)) (by assumption)]; simp; done))
            exact ⟨Bi (by rw [hno]; rfl),(Ac (Bb (Ac (Bb (Ac (g62) g83) g87 (by omega)) g93) g97 (by omega)) g113)⟩
           ·have hw110:=Bh hb111
            refine QL.go Z Z Z (fun wq gq=>bC (b:=true) Z) (QL.go Z Z Z (fun wq gq=>bA (v:=bF) Z Z) (QL.go Z Z Z (fun wq gq=>aX (v:=bF) Z) (QL.go Z Z Z (fun wq gq=>Cs (b:=⟨b90,0,none⟩) Z Z) (QL.go Z Z Z (fun wq gq=>bW Z (Ax Bw (Ob.cell (v:=(J e69.blk.at_)) (o98.st0 gq) Z))) (QL.go Z Z Z (fun wq gq=>Cg (b:=⟨b90,1,none⟩) Z Z) (QL.go Z Z Z (fun wq gq=>bW Z (Ax Bw (Ob.cell (v:=(J e69.blk.ord)) (o98.st0 gq) Z))) ?_))))))
            have wb115:=Bc e69.blk.ord
            refine QL.call (v:=(J (Af e69.blk.ord))) call201 (fun wq gq=>(words_ wq e69.blk.ord).mono (fun _ _ hh=>⟨hh.1,hh.2 ▸ gq⟩)) Z Z Z ?_
            have hpos:=Bt (o:=e69.blk.ord) (by omega) (by omega)
            refine QL.go Z Z Z (fun wq gq=>Ex.rem (r:=e69.blk.at_.tmod (Af e69.blk.ord)) Z Z (by omega) Z) ?_
            refine QL.br (p:=(e69.blk.at_.tmod (Af e69.blk.ord):Int) ≠ (0:Int)) Z Z Z (fun r hr wq gq=>bQ Z Z hr) (fun h116=>?_) (fun h116=>?_)
            ·refine QL.go Z Z Z (fun wq gq=>bA (v:=bT) Z Z) (QL.nil ?_)
             intro w117 g118
             have z119:=g118.size
             refine aQ (aE Z (cT (za (J 1) Z (cS (aB (aR (inB.r (aR (aR (inB.r (aR (aO (v:=(J 1)) (Ba Z Z) ?_))))))))))))
             have hno:Dc h = false:=heapB_no (by
               refine .inr (.inr (.inr (.inr (.inl (Eng.all_no ho72 ?_)))))
               unfold objB
               rw [← e1,← e2,← e3,← hord]
               first | (rw [decide_eq_false (by omega)]; simp; done) | (rw [h116]; simp; done) | (rw [decide_eq_false (p:=(Int.tmod _ _ = 0)) (by assumption)]; simp; done))
             exact ⟨Bi (by rw [hno]; rfl),(Ac (Bb (Ac (Bb (Ac (g62) g83) g87 (by omega)) g93) g97 (by omega)) g118)⟩
            ·refine QL.go Z Z Z (fun wq gq=>bA (v:=bF) Z Z) (QL.nil ?_)
             intro w120 g121
             have z122:=g121.size
             refine aQ (aF Z (aA (aQ (cT ?_))))
             have hrg:=needI_rng (a:=((e69.words.n:Nat):Int)) (b:=((e69.links.n:Nat):Int)) (by omega)
             have hob:objB h.order o71 = true:=by unfold objB; rw [← e1,← e2,← e3,← hord]; simp only [Bool.and_eq_true,decide_eq_true_eq]; exact ⟨⟨⟨by omega,by assumption⟩,by assumption⟩,by omega⟩
             refine zm (.slice A7 n7 c7) Z ?_
             have o123:=(o98.st0 g121)
             refine zg Z (bW Z (Aj (cs:=[(J e69.blk.at_),(J e69.blk.ord)]) wh133 o123.cl)) (cF (cs:=[(J e69.blk.at_),(J e69.blk.ord)]) underlying45 sizeOf133 ze45 Z Z Z (by decide) Z Z Z ?_)
             intro w124 b125 hb126 hz127 g128 o129
             have o130:=((((((ow7.st0 g83).st1 g87 (Ow.ne_or ow7 (by omega))).st0 g93).st1 g97 (Ow.ne_or ow7 (by omega))).st0 g121).st0 g128)
             refine cG (base:=w.heap.size) (xss:=Cq bs) (yss:=[[(J e69.blk.at_),(J e69.blk.ord)]]) el45 Z o130 Z (by simp [Aq,Au,Ar,Am,Ak]; try omega) (Ob.rd1 o129 Z) Z Z (by simp [Value.oneCell',Entry.cells,Row.cells,Blk.cells,RObj.cells]) (by omega) (by omega) (by omega) Z Z ?_
             intro w131 A132 c133 g134 ow135
             have z136:=g134.size
             refine za (.slice A132 (n7 + 1) c133) Z (cS (aL (zm (.slice A6 n6 c6) Z (zg Z (fa136_3 (b:=⟨b80,4,none⟩) Z Z) ?_))))
             have o137:=(((((o88.st0 g93).st1 g97 (by omega)).st0 g121).st0 g128).stO g134 (by first | exact Ow.ne_ty o130 ((((o88.st0 g93).st1 g97 (by omega)).st0 g121).st0 g128) (by decide) | exact Ow.ne_old o130 (by omega)))
             refine zl (.slice e69.links.a e69.links.n e69.links.c) lo134 o137 Z ?_
             have o138:=(((((((ow6.st0 g83).st1 g87 (Ow.ne_or ow6 (by omega))).st0 g93).st1 g97 (Ow.ne_or ow6 (by omega))).st0 g121).st0 g128).stO g134 o130 (by decide))
             have h139:=(((((((oR73.st0 g83).st1 g87 (by omega)).st0 g93).st1 g97 (by omega)).st0 g121).st0 g128).stO g134 o130 (by omega))
             refine cG (base:=w.heap.size) (xss:=ics ls) (yss:=ics (o71.links)) el134 Z o138 Z (by simp [Aq,Au,Ar,Am,Ak]; try omega) h139.rl Z (by simp [Aq,Au,Ar,Am,Ak]; try omega) (ics_one _) (by omega) (by omega) (by omega) Z Z ?_
             intro w140 A141 c142 g143 ow144
             have z145:=g143.size
             refine za (.slice A141 (n6 + e69.links.n) c142) Z (aM (inB.n (aQ (aL (zg Z (bI (r:=(k:Int) + 1) Z Z (Dl (by omega) (by omega))) (zm (J ((k:Int) + 1)) Z (cS ?_)))))))
             have o146:=(ow135.stO g143 o138 (by decide))
             have o147:=((((((((hbx.st0 g83).st1 g87 (by omega)).st0 g93).st1 g97 (by omega)).st0 g121).st0 g128).stO g134 (by first | exact Ow.ne_ty o130 ((((((hbx.st0 g83).st1 g87 (by omega)).st0 g93).st1 g97 (by omega)).st0 g121).st0 g128) (by decide) | exact Ow.ne_old o130 (by omega))).stO g143 (by first | exact Ow.ne_ty o138 (((((((hbx.st0 g83).st1 g87 (by omega)).st0 g93).st1 g97 (by omega)).st0 g121).st0 g128).stO g134 (by first | exact Ow.ne_ty o130 ((((((hbx.st0 g83).st1 g87 (by omega)).st0 g93).st1 g97 (by omega)).st0 g121).st0 g128) (by decide) | exact Ow.ne_old o130 (by omega))) (by decide) | exact Ow.ne_old o138 (by omega)))
             refine ⟨(by repeat (first | exact aJ _ _ | exact aH _ _ | refine aI ?_ Z _)),_,?_,⟨k + 1,_,_,_,_,_,_,ls ++ o71.links,bs ++ [o71.blk],rfl,rfl,rfl,rfl,(Cu (Cu (Ac (Ac (Bb (Ac (Bb (Ac (g62) g83) g87 (by omega)) g93) g97 (by omega)) g121) g128) g134 o130 (by omega)) g143 o138 (by omega)),by omega,by rw [take_snoc ho72,hls]; simp,by rw [take_snoc ho72,hbs]; simp,by simp; omega,by omega,by simp; omega,by omega,by rw [take_snoc ho72,List.all_append,hall]; simp [hob],by rw [ics_app]; exact ow144,by rw [blks_app,← e3]; exact o146,o147⟩⟩
             omega
        ·refine cS (aD (aF Z (aC (aS (aS (Bo (aQ (cT (zm (.slice A7 n7 c7) Z ?_)))))))))
         have hkk:k = ros.length:=by omega
         have htk:h.objs.take k = h.objs:=List.take_of_length_le (by omega)
         rw [htk] at hls hbs hall
         refine aU call204 (sortB _ _ _ _ _ _ ow7 (by omega) (by omega)) Z Z Z ?_
         rintro _ w152 ⟨l148,rfl,g153,hp149,hs150,ow151⟩
         have z154:=g153.size
         have hwd : ∀ b ∈ bs,1 ≤ Af b.ord:=by
          intro b hb; rw [hbs] at hb
          rcases List.mem_append.1 hb with hb | hb
          ·exact hbud.2.2.2 b hb
          ·obtain ⟨x,hx,rfl⟩:=List.mem_map.1 hb
           exact objB_pos (by omega) (List.all_eq_true.1 hall x hx)
         have hl3:l148.length = bs.length:=hp149.length_eq
         have hblk:bs = h.blocks:=hbs
         refine cS (cT (za (J 0) Z (cS (aD (cT (zm (.slice A7 n7 c7) Z (zg Z (bR underlying45 Z) (zm (J 0) Z (cS (aG ?_))))))))))
         refine aK (fun t=>Nat.beq t 2 || Nat.beq t 11 || Nat.beq t 13 || (Nat.ble 116 t && Nat.ble t 129)) (fun n ρ wl => ∃ (k:Nat) (e:Int),ρ 116 = (J (k:Int))∧ρ 11 = (J e)∧n = l148.length - k∧World.grownBy w152 wl none∧k ≤ l148.length∧Bx 0 (l148.take k) = some e∧0 ≤ e∧e ≤ 256 * k) (l148.length) ?aa2 ?bb2
         case aa2=>exact ⟨0,0,rfl,rfl,rfl,Bs _ _,Nat.zero_le _,rfl,Int.le_refl _,by omega⟩
         case bb2 =>
          rintro n157 ρ2 w155 ho158 ⟨k,e,hs2_116,hs2_11,hn2,g156,hk3,hc3,he0,he1⟩
          obtain ⟨j2,rfl⟩:=ho158.shape2 hs2_116 hs2_11
          clear ho158 hs2_116 hs2_11
          subst hn2
          have z159:=g156.size
          refine cT ?_
          refine zc (((k:Int):Int) < ((n7:Nat):Int)) Z (fun r hr=>bL Z Z hr) (fun h160=>?_) (fun h160=>?_)
          ·refine cS (aD (aE Z (aA (aQ (aD (aG (cT ?_)))))))
           have o161:=(ow151.st0 g156)
           obtain ⟨e162,he163⟩ : ∃ e,(l148)[k]? = some e:=⟨_,List.getElem?_eq_getElem (by omega)⟩
           obtain ⟨ad164,hA165,hB166,c167⟩:=(o161.rd).at_ (Ca he163)
           have hl168:=Eng.lt_len (Ca he163)
           refine zg Z (bS (b:=ad164.add (k * 2)) (i:=k) underlying45 sizeOf133 (by rw [← hA165]; rfl) Z (by omega) (by omega) Z) (zg Z (bW Z (Aj (cs:=e162.cells) wh133 c167)) (bG (cs:=[(J 0),(J 0)]) zeroValue133 Z Z Z ?_))
           intro w169 b170 hb171 hz172 g173 o174
           refine bE (vs:=e162.cells) (cs':=e162.cells) sizeOf133 o174 Z Z Z Z Z Z ?_
           intro w175 hz176 g177 o178
           refine cS (aD (cT (zg Z (Cs (b:=⟨b170,0,none⟩) Z Z) (zl (J e162.at_) Bw o178 Z (zm (J e) Z ?_)))))
           refine zc ((e162.at_:Int) ≠ (e:Int)) Z (fun r hr=>bQ Z Z hr) (fun h179=>?_) (fun h179=>?_)
           ·refine cS (aE Z (cT (za (J 1) Z (cS (aB (aR (inB.r (aR (aR (inB.r (aR (aO (v:=(J 1)) (Ba Z Z) ?_))))))))))))
            have hno:Dc h = false:=heapB_no (by
              refine .inr (.inr (.inr (.inr (.inr (.inl ?_)))))
              intro hcon
              rw [← hblk,contig_iff hwd hp149 hs150,contig_stop hc3 he163 (by assumption)] at hcon
              cases hcon)
            exact ⟨Bi (by rw [hno]; rfl),(Bb (Ac (Ac (Cu (g62) g153 ow7 (by omega)) g156) g173) g177 (by omega))⟩
           ·refine cS (aF Z (aA (aQ (aL (zm (J e) Z (zg Z (Cg (b:=⟨b170,1,none⟩) Z Z) (zl (J e162.ord) Bw o178 Z ?_)))))))
            have wb180:=Bc e162.ord
            refine aU call201 (words_ _ e162.ord) Z Z Z ?_
            rintro _ _ ⟨rfl,rfl⟩
            have hwb:=Bc e162.ord
            refine zg Z (bI (r:=e + (Af e162.ord)) Z Z (Dl (by omega) (by omega))) (za (J (e + (Af e162.ord))) Z (aM (inB.n (aQ (aL (zg Z (bI (r:=(k:Int) + 1) Z Z (Dl (by omega) (by omega))) (zm (J ((k:Int) + 1)) Z (cS ?_))))))))
            refine ⟨(by repeat (first | exact aJ _ _ | exact aH _ _ | refine aI ?_ Z _)),_,?_,⟨k + 1,_,rfl,rfl,rfl,(Bb (Ac (g156) g173) g177 (by omega)),by omega,by rw [take_snoc he163,contigGo_snoc hc3,if_pos (by omega)],by omega,by omega⟩⟩
            omega
          ·refine cS (aD (aF Z (aC (aS (aS (Bo (aQ (cT (zg Z (Ex.mkf (v:=(.func (.func 206) #[] #[(.pointer (some ⟨b2,0,none⟩))])) Z) (za (.func (.func 206) #[] #[(.pointer (some ⟨b2,0,none⟩))]) Z (cS (aD (cT (zm (J e) Z (zg Z (fa47_0 (b:=⟨b2,0,none⟩) Z Z) ?_)))))))))))))))
           have o181:=((hbx.stO g153 (by first | exact Ow.ne_ty ow7 hbx (by decide) | exact Ow.ne_old ow7 (by omega))).st0 g156)
           refine zl (J rh.order) Bw o181 Z ?_
           have wb182:=Bc rh.order
           refine aU call201 (words_ _ rh.order) Z Z Z ?_
           rintro _ _ ⟨rfl,rfl⟩
           refine zc ((e:Int) ≠ (Af rh.order:Int)) Z (fun r hr=>bQ Z Z hr) (fun h183=>?_) (fun h183=>?_)
           ·refine zm bT Z (zo Z (zo Z (zo Z (zT bT Z (zm bT Z (zo Z (zo Z (zo Z (zo Z (zT bT Z ?_))))))))))
            refine cS (aE Z (cT (za (J 1) Z (cS (aB (aR (aO (v:=(J 1)) (Ba Z Z) ?_)))))))
            have hno:Dc h = false:=heapB_no (by
              have hce:Bx 0 l148 = some e:=by rw [← List.take_of_length_le (show l148.length ≤ k by omega)]; exact hc3
              have hlo:h.lost = fun x => !(leadB (hds ros) x):=by unfold Heap.lost; rw [H.hds]
              first | (refine .inr (.inr (.inr (.inr (.inr (.inl ?_))))); rw [← hblk,Ne,contig_iff hwd hp149 hs150,hce,← hord]; simp only [Option.some.injEq]; assumption) | (refine .inr (.inr (.inr (.inr (.inr (.inr (.inl ?_)))))); rw [hlo]; rw [show h.links = ls from hls.symm]; assumption) | (refine .inr (.inr (.inr (.inr (.inr (.inr (.inr ?_)))))); rw [hlo,← H.tops]; assumption))
            exact ⟨Bi (by rw [hno]; rfl),(Ac (Cu (g62) g153 ow7 (by omega)) g156)⟩
           ·refine zm bF Z (zm (.slice A6 n6 c6) Z (zm (.func (.func 206) #[] #[(.pointer (some ⟨b2,0,none⟩))]) Z ?_))
            have h184:=(((H.st0 g62).stO g153 ow7 (by omega)).st0 g156)
            have o185:=((ow6.stO g153 ow7 (by decide)).st0 g156)
            refine aU call208 (ctLost _ _ _ _ _ o181 h184.objs.rd hon hom ls _ _ _ _ o185.rd (by first | rfl | omega) (by first | omega | (simp))) Z Z Z ?_
            rintro _ w186 ⟨rfl,g187⟩
            have z188:=g187.size
            rcases hb189:((ls).any (fun x => !(leadB (hds ros) x))) with _ | _
            ·refine zF bF Z (zm bF Z (zg Z (fa47_3 (b:=⟨b2,3,none⟩) Z Z) (zg Z (Ex.slA underlying44 sizeOf3 Z Z) (zm (.func (.func 206) #[] #[(.pointer (some ⟨b2,0,none⟩))]) Z ?_))))
             have o190:=(o181.st0 g187)
             have h191:=(h184.st0 g187)
             refine aU call208 (ctLost _ _ _ _ _ o190 h191.objs.rd hon hom [rh.t0,rh.t1,rh.t2,rh.t3] _ _ _ _ (Ob.rdI (l:=[rh.t0,rh.t1,rh.t2,rh.t3]) o190 Z) (by first | rfl | omega) (by first | omega | (simp))) Z Z Z ?_
             rintro _ w192 ⟨rfl,g193⟩
             have z194:=g193.size
             rcases hb195:(([rh.t0,rh.t1,rh.t2,rh.t3]).any (fun x => !(leadB (hds ros) x))) with _ | _
             ·refine zF bF Z (cS (aF Z (aA (aQ (cT (za (J 0) Z (cS (aB (aO (v:=(J 0)) (Ba Z Z) ?_)))))))))
              have hce:Bx 0 l148 = some e:=by rw [← List.take_of_length_le (show l148.length ≤ k by omega)]; exact hc3
              have hlo:h.lost = fun x => !(leadB (hds ros) x):=by unfold Heap.lost; rw [H.hds]
              have hyes:Dc h = true:=heapB_yes hbu (by rw [← hnx]; assumption) (by have hw8:Af 8 = 256:=(by decide); omega) (by rw [← hnx,← H.hds]; exact hasce) hall (by rw [← hblk,contig_iff hwd hp149 hs150,hce,← hord]; simp only [Option.some.injEq]; omega) (by rw [hlo,show h.links = ls from hls.symm]; assumption) (by rw [hlo,← H.tops]; assumption)
              exact ⟨Bi (by rw [hyes]; rfl),(Ac (Ac (Ac (Cu (g62) g153 ow7 (by omega)) g156) g187) g193)⟩
             ·refine zF bT Z (cS (aE Z (cT (za (J 1) Z (cS (aB (aR (aO (v:=(J 1)) (Ba Z Z) ?_))))))))
              have hno:Dc h = false:=heapB_no (by
                have hce:Bx 0 l148 = some e:=by rw [← List.take_of_length_le (show l148.length ≤ k by omega)]; exact hc3
                have hlo:h.lost = fun x => !(leadB (hds ros) x):=by unfold Heap.lost; rw [H.hds]
                first | (refine .inr (.inr (.inr (.inr (.inr (.inl ?_))))); rw [← hblk,Ne,contig_iff hwd hp149 hs150,hce,← hord]; simp only [Option.some.injEq]; assumption) | (refine .inr (.inr (.inr (.inr (.inr (.inr (.inl ?_)))))); rw [hlo]; rw [show h.links = ls from hls.symm]; assumption) | (refine .inr (.inr (.inr (.inr (.inr (.inr (.inr ?_)))))); rw [hlo,← H.tops]; assumption))
              exact ⟨Bi (by rw [hno]; rfl),(Ac (Ac (Ac (Cu (g62) g153 ow7 (by omega)) g156) g187) g193)⟩
            ·refine zF bT Z (zm bT Z (zo Z (zo Z (zo Z (zo Z (zT bT Z (cS (aE Z (cT (za (J 1) Z (cS (aB (aR (aO (v:=(J 1)) (Ba Z Z) ?_))))))))))))))
             have hno:Dc h = false:=heapB_no (by
               have hce:Bx 0 l148 = some e:=by rw [← List.take_of_length_le (show l148.length ≤ k by omega)]; exact hc3
               have hlo:h.lost = fun x => !(leadB (hds ros) x):=by unfold Heap.lost; rw [H.hds]
               first | (refine .inr (.inr (.inr (.inr (.inr (.inl ?_))))); rw [← hblk,Ne,contig_iff hwd hp149 hs150,hce,← hord]; simp only [Option.some.injEq]; assumption) | (refine .inr (.inr (.inr (.inr (.inr (.inr (.inl ?_)))))); rw [hlo]; rw [show h.links = ls from hls.symm]; assumption) | (refine .inr (.inr (.inr (.inr (.inr (.inr (.inr ?_)))))); rw [hlo,← H.tops]; assumption))
             exact ⟨Bi (by rw [hno]; rfl),(Ac (Ac (Cu (g62) g153 ow7 (by omega)) g156) g187)⟩
end Go.Proofs.YtfokljnhllflbaaGreat
namespace Go.Proofs.YtfokljnhllflbaaGreat
open Go Go.Eng Go.RowKit Go.Proofs.Tryz
theorem insBlkOv (w:World) (g vb T1 T2 o m mc lb cb:Nat) (cs vcs:List Value) (h1:Ob w vb T1 vcs) (h2:Ob w g T2 cs) (hne:vb ≠ g) (hc:cs.length ≠ 0):(callFunc 315 #[.slice (some ⟨vb,0,none⟩) m mc,.slice (some ⟨g,o,none⟩) lb cb]).run prog w = .ok (.value (.bool false)) w:=by
  rw [run_callFunc_extern func315 (by kernel_rfl) (by kernel_rfl) (by kernel_rfl) (e:=Extern.SlicesOverlaps.overlaps #[45,45] #[4]) (by kernel_rfl),
    Lib.run_overlaps_apart w 45 4 133 underlying45 2 sizeOf133 ⟨vb,0,none⟩ ⟨g,o,none⟩ m mc lb cb hne T1 T2 vcs.length cs.length (by unfold Ob at h1; simp [World.shape?,h1]) (by unfold Ob at h2; simp [World.shape?,h2]) hc
      (by unfold Ob at h1; simp [World.frozen?,h1]) (by unfold Ob at h1; simp [World.frozen?,h1])]
  rfl
set_option maxHeartbeats 1000000 in
set_option maxRecDepth 20000 in
theorem insBlkMR (w:World) (g vb off n c i m:Nat) (cs vcs:List Value) (ho:Ob w g 133 cs) (hv:Ob w vb 133 vcs) (hl:off + c * 2 ≤ cs.length) (hvl:vcs.length = m * 2) (hm:0 < m) (hnc:n ≤ c) (hcm:c ≤ 9223372036854775807) (hmm:m ≤ 140737488355328) (hne:g ≠ vb) (hi:i < n) (hr:n + m ≤ c) (h1x : ∀ u ∈ (cs.drop off).take (n * 2),u.oneCell' = true) (h1v : ∀ u ∈ vcs,u.oneCell' = true):Ret prog 292 [(.slice (some ⟨g,off,none⟩) n c),(J (i:Int)),(.slice (some ⟨vb,0,none⟩) m m)] w (fun v w'=>v = .slice (some ⟨g,off,none⟩) (n + m) c∧w.grownBy w' (some g)∧Ob w' g 133 (pt (pt cs (off + (i + m) * 2) (((cs.drop off).take (n * 2)).drop (i * 2))) (off + i * 2) vcs)):=by
  have hglt:=ho.lt
  have hvlt:=hv.lt
  refine aP func292 Z Z Z ?_
  refine cT (za (.slice none 0 0) Z (cS (cT (zm (.slice (some ⟨g,off,none⟩) n c) Z (zm (J (i:Int)) Z (zg Z (bV (n:=n) (i:=i) underlying45 sizeOf133 Z Z Z (by omega) Z) (cS (cT (zm (.slice (some ⟨vb,0,none⟩) m m) Z (zg Z (bR underlying45 Z) (za (J (m:Nat)) Z (cS (aD (cT ?_))))))))))))))
  refine zm (J (m:Nat)) Z (zg Z (bP (r:=false) Z Z (decide_eq_false (by omega))) (cS (aF Z (aA (aQ (cT (zm (.slice (some ⟨g,off,none⟩) n c) Z (zg Z (bR underlying45 Z) (za (J (n:Nat)) Z (cS (aD (cT (zm (J (i:Int)) Z (zm (J (n:Nat)) Z (zg Z (bP (r:=false) Z Z (decide_eq_false (by omega))) (cS (aF Z (aA (aQ (aD (cT ?_)))))))))))))))))))))
  refine zm (J (n:Nat)) Z (zm (J (m:Nat)) Z (zg Z (bI (r:=(n:Nat) + (m:Nat)) Z Z (Dl (by omega) (by omega))) (zm (.slice (some ⟨g,off,none⟩) n c) Z (zg Z (Ex.capS underlying45 Z) (zg Z (bN (r:=false) Z Z (decide_eq_false (by omega))) (cS (aF Z (aA (aQ (cT (zm (.slice (some ⟨g,off,none⟩) n c) Z (zm (J (n:Nat)) Z (zm (J (m:Nat)) Z (zg Z (bI (r:=(n:Nat) + (m:Nat)) Z Z (Dl (by omega) (by omega))) ?_))))))))))))))
  refine zg Z (bU (i:=(n + m)) underlying45 sizeOf133 Z Z (by first | rfl | omega | (simp; omega)) (by omega)) (za (.slice (some ⟨g,off,none⟩) (n + m) c) Z (cS (aD (cT (zm (.slice (some ⟨vb,0,none⟩) m m) Z (zm (.slice (some ⟨g,off,none⟩) (n + m) c) Z (zm (J (i:Int)) Z (zm (J (m:Nat)) Z (zg Z (bI (r:=(i:Int) + (m:Nat)) Z Z (Dl (by omega) (by omega))) (zg Z (cK (i:=(i + m)) (o':=off + (i + m) * 2) (n':=(n + m) - (i + m)) (c':=c - (i + m)) underlying45 sizeOf133 Z Z (by first | rfl | omega | (simp; omega)) (by omega) (by omega) Z Z Z) (zg Z (Ex.extn (insBlkOv _ _ _ _ _ _ _ _ _ _ _ _ hv ho (Ne.symm hne) (by omega)) Z) (zg Z (bC (b:=false) Z) ?_))))))))))))
  refine cS (aE Z (aD (cH 8 (fun wq=>World.grownBy w wq none) Tryz.mixed (by kernel_rfl) ⟨Z,rfl,rfl,Nat.le_refl _,fun _ _ _=>rfl⟩ (QL.go Z Z Z (fun wq gq=>aX (v:=(.slice (some ⟨g,off,none⟩) (n + m) c)) Z) (QL.go Z Z Z (fun wq gq=>aX (v:=(J (i:Int))) Z) (QL.go Z Z Z (fun wq gq=>aX (v:=(J (m:Nat))) Z) (QL.go Z Z Z (fun wq gq=>bI (r:=(i:Int) + (m:Nat)) Z Z (Dl (by omega) (by omega))) (QL.go Z Z Z (fun wq gq=>cK (i:=(i + m)) (o':=off + (i + m) * 2) (n':=(n + m) - (i + m)) (c':=c - (i + m)) underlying45 sizeOf133 Z Z (by first | rfl | omega | (simp; omega)) (by omega) (by omega) Z Z Z) (QL.go Z Z Z (fun wq gq=>aX (v:=(.slice (some ⟨g,off,none⟩) (n + m) c)) Z) (QL.go Z Z Z (fun wq gq=>aX (v:=(J (i:Int))) Z) ?_))))))))))
  refine QL.go Z Z Z (fun wq gq=>cK (i:=i) (o':=off + i * 2) (n':=(n + m) - i) (c':=c - i) underlying45 sizeOf133 Z Z (by first | rfl | omega | (simp; omega)) (by omega) (by omega) Z Z Z) (QL.nil ?_)
  intro w1 g2
  have z3:=g2.size
  have o4:=(ho.st0 g2)
  refine RL.cpy (o:=off + (i + m) * 2) (dl:=n + m - (i + m)) underlying45 sizeOf133 o4 Z (by  omega) (Src.ob (off:=off + i * 2) (m:=n + m - i) o4 Z (by omega)) (by rw [seg_eq (off:=off) (I:=i * 2) (N:=n * 2) (by omega) (by omega) (by omega)]; exact fun u hu=>h1x u (List.mem_of_mem_drop hu)) Z Z ?_
  intro w5 hz6 g7 o8
  rw [show (((cs).drop (off + i * 2)).take ((n + m - i) * 2)).take (min (n + m - i) (n + m - (i + m)) * 2) = ((cs.drop off).take (n * 2)).drop (i * 2) from seg_eq (by omega) (by omega) (by omega)] at o8
  have hlA:(pt (cs) (off + (i + m) * 2) (((cs.drop off).take (n * 2)).drop (i * 2))).length = (cs).length:=pt_length (by first | omega | (simp only [List.length_drop,List.length_take]; omega))
  have z9:=g7.size
  refine cS (cT (zm (.slice (some ⟨g,off,none⟩) (n + m) c) Z (zm (J (i:Int)) Z (zg Z (cK (i:=i) (o':=off + i * 2) (n':=(n + m) - i) (c':=c - i) underlying45 sizeOf133 Z Z (by first | rfl | omega | (simp; omega)) (by omega) (by omega) Z Z Z) (zm (.slice (some ⟨vb,0,none⟩) m m) Z ?_)))))
  have o10:=((hv.st0 g2).st1 g7 (by omega))
  refine RL.cpy (o:=off + i * 2) (dl:=n + m - i) underlying45 sizeOf133 o8 Z (by  omega) (Src.ob (off:=0) (m:=m) o10 Z (by omega)) (by exact fun u hu=>h1v u (List.mem_of_mem_drop (List.mem_of_mem_take (List.mem_of_mem_take hu)))) Z Z ?_
  intro w11 hz12 g13 o14
  rw [show (((vcs).drop (0)).take ((m) * 2)).take (min (m) (n + m - i) * 2) = vcs from (by rw [List.drop_zero,List.take_take]; exact List.take_of_length_le (by omega))] at o14
  have z15:=g13.size
  refine cS (cT (zm (.slice (some ⟨g,off,none⟩) (n + m) c) Z (za (.slice (some ⟨g,off,none⟩) (n + m) c) Z (cS (aB (aR (aO (v:=(.slice (some ⟨g,off,none⟩) (n + m) c)) (Ba Z Z) ?_)))))))
  exact ⟨Z,(Ae (Ae (An g2 _) g7) g13),o14⟩
set_option maxHeartbeats 400000 in
set_option maxRecDepth 20000 in
theorem insBlkER (w:World) (g vb off n c i m:Nat) (cs vcs:List Value) (ho:Ob w g 133 cs) (hv:Ob w vb 133 vcs) (hl:off + c * 2 ≤ cs.length) (hvl:vcs.length = m * 2) (hm:0 < m) (hnc:n ≤ c) (hcm:c ≤ 9223372036854775807) (hmm:m ≤ 140737488355328) (hi:i = n) (hr:n + m ≤ c) (h1v : ∀ u ∈ vcs,u.oneCell' = true):Ret prog 292 [(.slice (some ⟨g,off,none⟩) n c),(J (i:Int)),(.slice (some ⟨vb,0,none⟩) m m)] w (fun v w'=>v = .slice (some ⟨g,off,none⟩) (n + m) c∧w.grownBy w' (some g)∧Ob w' g 133 (pt cs (off + n * 2) vcs)):=by
  refine aP func292 Z Z Z ?_
  refine cT (za (.slice none 0 0) Z (cS (cT (zm (.slice (some ⟨g,off,none⟩) n c) Z (zm (J (i:Int)) Z (zg Z (bV (n:=n) (i:=i) underlying45 sizeOf133 Z Z Z (by omega) Z) (cS (cT (zm (.slice (some ⟨vb,0,none⟩) m m) Z (zg Z (bR underlying45 Z) (za (J (m:Nat)) Z (cS (aD (cT ?_))))))))))))))
  refine zm (J (m:Nat)) Z (zg Z (bP (r:=false) Z Z (decide_eq_false (by omega))) (cS (aF Z (aA (aQ (cT (zm (.slice (some ⟨g,off,none⟩) n c) Z (zg Z (bR underlying45 Z) (za (J (n:Nat)) Z (cS (aD (cT (zm (J (i:Int)) Z (zm (J (n:Nat)) Z (zg Z (bP (r:=true) Z Z (decide_eq_true (by omega))) (cS (aE Z (cT ?_))))))))))))))))))
  refine zm (.slice (some ⟨g,off,none⟩) n c) Z (zm (.slice (some ⟨vb,0,none⟩) m m) Z (RL.apR (m:=m) (ys:=vcs) el45 ho Z hl (by omega) (Src.ob (off:=0) hv (by rw [List.drop_zero]; exact List.take_of_length_le (by omega)) (by omega)) h1v Z Z ?_))
  intro w1 hz2 g3 o4
  refine za (.slice (some ⟨g,off,none⟩) (n + m) c) Z (cS (aB (aR (aO (v:=(.slice (some ⟨g,off,none⟩) (n + m) c)) (Ba Z Z) ?_))))
  exact ⟨Z,(g3),o4⟩
set_option maxHeartbeats 1000000 in
set_option maxRecDepth 20000 in
theorem insBlkMG (w:World) (g vb off n c i m:Nat) (cs vcs:List Value) (ho:Ob w g 133 cs) (hv:Ob w vb 133 vcs) (hl:off + c * 2 ≤ cs.length) (hvl:vcs.length = m * 2) (hm:0 < m) (hnc:n ≤ c) (hcm:c ≤ 9223372036854775807) (hmm:m ≤ 140737488355328) (hi:i < n) (hr:c < n + m) (hby:(n + m) * 16 ≤ 140737488355328) (h1x : ∀ u ∈ (cs.drop off).take (n * 2),u.oneCell' = true) (h1v : ∀ u ∈ vcs,u.oneCell' = true):Ret prog 292 [(.slice (some ⟨g,off,none⟩) n c),(J (i:Int)),(.slice (some ⟨vb,0,none⟩) m m)] w (fun v w' => ∃ (b c':Nat) (zs:List Value),v = .slice (some ⟨b,0,none⟩) (n + m) c'∧w.grownBy w' none∧w.heap.size ≤ b∧n + m ≤ c'∧c' ≤ maxLen∧i * 2 + zs.length = c' * 2∧Ob w' b 133 (pt (pt (((cs.drop off).take (n * 2)).take (i * 2) ++ zs) (0 + i * 2) vcs) (0 + (i + m) * 2) (((cs.drop off).take (n * 2)).drop (i * 2)))):=by
  have hglt:=ho.lt
  have hvlt:=hv.lt
  refine aP func292 Z Z Z ?_
  refine cT (za (.slice none 0 0) Z (cS (cT (zm (.slice (some ⟨g,off,none⟩) n c) Z (zm (J (i:Int)) Z (zg Z (bV (n:=n) (i:=i) underlying45 sizeOf133 Z Z Z (by omega) Z) (cS (cT (zm (.slice (some ⟨vb,0,none⟩) m m) Z (zg Z (bR underlying45 Z) (za (J (m:Nat)) Z (cS (aD (cT ?_))))))))))))))
  refine zm (J (m:Nat)) Z (zg Z (bP (r:=false) Z Z (decide_eq_false (by omega))) (cS (aF Z (aA (aQ (cT (zm (.slice (some ⟨g,off,none⟩) n c) Z (zg Z (bR underlying45 Z) (za (J (n:Nat)) Z (cS (aD (cT (zm (J (i:Int)) Z (zm (J (n:Nat)) Z (zg Z (bP (r:=false) Z Z (decide_eq_false (by omega))) (cS (aF Z (aA (aQ (aD (cT ?_)))))))))))))))))))))
  refine zm (J (n:Nat)) Z (zm (J (m:Nat)) Z (zg Z (bI (r:=(n:Nat) + (m:Nat)) Z Z (Dl (by omega) (by omega))) (zm (.slice (some ⟨g,off,none⟩) n c) Z (zg Z (Ex.capS underlying45 Z) (zg Z (bN (r:=true) Z Z (decide_eq_true (by omega))) (cS (aE Z (cT (zm (.slice (some ⟨g,off,none⟩) n c) Z (zm (J (i:Int)) Z (zg Z (bU (i:=i) underlying45 sizeOf133 Z Z (by first | rfl | omega | (simp; omega)) (by omega)) (zm (J (n:Nat)) Z ?_))))))))))))
  refine zm (J (m:Nat)) Z (zg Z (bI (r:=(n:Nat) + (m:Nat)) Z Z (Dl (by omega) (by omega))) (zm (J (i:Int)) Z (zg Z (bJ (r:=((n:Nat) + (m:Nat)) - (i:Int)) Z Z (Dl (by omega) (by omega))) (RL.apZ (n:=i) (m:=n + m - i) (xs:=((cs.drop off).take (n * 2)).take (i * 2)) el45 Z underlying3 Z (Src.ob (off:=off) ho (by rw [List.take_take]; congr 1; omega) (by omega)) (by omega) Z (by omega) (by omega) (by omega) (by omega) Z Z ?_))))
  intro w1 b2 c3 zs4 hb5 hz6 g7 hc8 hc9 hzs10 o11
  have hxl:(((cs.drop off).take (n * 2)).take (i * 2)).length = i * 2:=by simp only [List.length_take,List.length_drop]; omega
  have hcl:(((cs.drop off).take (n * 2)).take (i * 2) ++ zs4).length = c3 * 2:=by rw [List.length_append,hxl,hzs10]; omega
  simp only [maxLen] at hc9
  refine za (.slice (some ⟨b2,0,none⟩) (i + (n + m - i)) c3) Z (cS (cT (zm (.slice (some ⟨b2,0,none⟩) (i + (n + m - i)) c3) Z (zm (J (i:Int)) Z (zg Z (cK (i:=i) (o':=0 + i * 2) (n':=(i + (n + m - i)) - i) (c':=c3 - i) underlying45 sizeOf133 Z Z (by first | rfl | omega | (simp; omega)) (by omega) (by omega) Z Z Z) (zm (.slice (some ⟨vb,0,none⟩) m m) Z ?_))))))
  have o12:=(hv.st0 g7)
  refine RL.cpy (o:=0 + i * 2) (dl:=i + (n + m - i) - i) underlying45 sizeOf133 o11 Z (by  omega) (Src.ob (off:=0) (m:=m) o12 Z (by omega)) (by exact fun u hu=>h1v u (List.mem_of_mem_drop (List.mem_of_mem_take (List.mem_of_mem_take hu)))) Z Z ?_
  intro w13 hz14 g15 o16
  rw [show (((vcs).drop (0)).take ((m) * 2)).take (min (m) (i + (n + m - i) - i) * 2) = vcs from (by rw [List.drop_zero,List.take_take]; exact List.take_of_length_le (by omega))] at o16
  have hlA:(pt (((cs.drop off).take (n * 2)).take (i * 2) ++ zs4) (0 + i * 2) (vcs)).length = (((cs.drop off).take (n * 2)).take (i * 2) ++ zs4).length:=pt_length (by first | omega | (simp only [List.length_drop,List.length_take]; omega))
  have z17:=g15.size
  refine cS (aD (cH 8 (fun wq=>World.grownBy w13 wq none) Tryz.mixed (by kernel_rfl) ⟨Z,rfl,rfl,Nat.le_refl _,fun _ _ _=>rfl⟩ (QL.go Z Z Z (fun wq gq=>aX (v:=(.slice (some ⟨b2,0,none⟩) (i + (n + m - i)) c3)) Z) (QL.go Z Z Z (fun wq gq=>aX (v:=(J (i:Int))) Z) (QL.go Z Z Z (fun wq gq=>aX (v:=(J (m:Nat))) Z) (QL.go Z Z Z (fun wq gq=>bI (r:=(i:Int) + (m:Nat)) Z Z (Dl (by omega) (by omega))) (QL.go Z Z Z (fun wq gq=>cK (i:=(i + m)) (o':=0 + (i + m) * 2) (n':=(i + (n + m - i)) - (i + m)) (c':=c3 - (i + m)) underlying45 sizeOf133 Z Z (by first | rfl | omega | (simp; omega)) (by omega) (by omega) Z Z Z) (QL.go Z Z Z (fun wq gq=>aX (v:=(.slice (some ⟨g,off,none⟩) n c)) Z) (QL.go Z Z Z (fun wq gq=>aX (v:=(J (i:Int))) Z) ?_)))))))))
  refine QL.go Z Z Z (fun wq gq=>cK (i:=i) (o':=off + i * 2) (n':=n - i) (c':=c - i) underlying45 sizeOf133 Z Z (by first | rfl | omega | (simp; omega)) (by omega) (by omega) Z Z Z) (QL.nil ?_)
  intro w18 g19
  have z20:=g19.size
  have o21:=(o16.st0 g19)
  have o22:=(((ho.st0 g7).st1 g15 (by omega)).st0 g19)
  refine RL.cpy (o:=0 + (i + m) * 2) (dl:=i + (n + m - i) - (i + m)) underlying45 sizeOf133 o21 Z (by  omega) (Src.ob (off:=off + i * 2) (m:=n - i) o22 Z (by omega)) (by rw [seg_eq (off:=off) (I:=i * 2) (N:=n * 2) (by omega) (by omega) (by omega)]; exact fun u hu=>h1x u (List.mem_of_mem_drop hu)) Z Z ?_
  intro w23 hz24 g25 o26
  rw [show (((cs).drop (off + i * 2)).take ((n - i) * 2)).take (min (n - i) (i + (n + m - i) - (i + m)) * 2) = ((cs.drop off).take (n * 2)).drop (i * 2) from seg_eq (by omega) (by omega) (by omega)] at o26
  have z27:=g25.size
  refine cS (cT (zm (.slice (some ⟨b2,0,none⟩) (i + (n + m - i)) c3) Z (za (.slice (some ⟨b2,0,none⟩) (i + (n + m - i)) c3) Z (cS (aB (aR (aO (v:=(.slice (some ⟨b2,0,none⟩) (i + (n + m - i)) c3)) (Ba Z Z) ?_)))))))
  exact ⟨b2,c3,zs4,by rw [show i + (n + m - i) = n + m by omega],(Bb (Ac (Bb (g7) g15 (by omega)) g19) g25 (by omega)),by omega,by omega,by simp only [maxLen]; omega,by omega,o26⟩
set_option maxHeartbeats 400000 in
set_option maxRecDepth 20000 in
theorem insBlkEG (w:World) (g vb off n c i m:Nat) (cs vcs:List Value) (ho:Ob w g 133 cs) (hv:Ob w vb 133 vcs) (hl:off + c * 2 ≤ cs.length) (hvl:vcs.length = m * 2) (hm:0 < m) (hnc:n ≤ c) (hcm:c ≤ 9223372036854775807) (hmm:m ≤ 140737488355328) (hi:i = n) (hr:c < n + m) (hby:(n + m) * 16 ≤ 140737488355328) (h1v : ∀ u ∈ vcs,u.oneCell' = true):Ret prog 292 [(.slice (some ⟨g,off,none⟩) n c),(J (i:Int)),(.slice (some ⟨vb,0,none⟩) m m)] w (fun v w' => ∃ (b c':Nat) (zs:List Value),v = .slice (some ⟨b,0,none⟩) (n + m) c'∧w.grownBy w' none∧w.heap.size ≤ b∧n + m ≤ c'∧c' ≤ maxLen∧zs.length = (c' - (n + m)) * 2∧Ob w' b 133 ((cs.drop off).take (n * 2) ++ vcs ++ zs)):=by
  refine aP func292 Z Z Z ?_
  refine cT (za (.slice none 0 0) Z (cS (cT (zm (.slice (some ⟨g,off,none⟩) n c) Z (zm (J (i:Int)) Z (zg Z (bV (n:=n) (i:=i) underlying45 sizeOf133 Z Z Z (by omega) Z) (cS (cT (zm (.slice (some ⟨vb,0,none⟩) m m) Z (zg Z (bR underlying45 Z) (za (J (m:Nat)) Z (cS (aD (cT ?_))))))))))))))
  refine zm (J (m:Nat)) Z (zg Z (bP (r:=false) Z Z (decide_eq_false (by omega))) (cS (aF Z (aA (aQ (cT (zm (.slice (some ⟨g,off,none⟩) n c) Z (zg Z (bR underlying45 Z) (za (J (n:Nat)) Z (cS (aD (cT (zm (J (i:Int)) Z (zm (J (n:Nat)) Z (zg Z (bP (r:=true) Z Z (decide_eq_true (by omega))) (cS (aE Z (cT ?_))))))))))))))))))
  refine zm (.slice (some ⟨g,off,none⟩) n c) Z (zm (.slice (some ⟨vb,0,none⟩) m m) Z (RL.apG (n:=n) (m:=m) (xs:=(cs.drop off).take (n * 2)) (ys:=vcs) el45 Z (Src.ob (off:=off) ho Z (by omega)) (by omega) (Src.ob (off:=0) hv (by rw [List.drop_zero]; exact List.take_of_length_le (by omega)) (by omega)) (by omega) (by omega) Z Z ?_))
  intro w1 b2 c3 zs4 hb5 hz6 g7 hc8 hc9 hzs10 o11
  refine za (.slice (some ⟨b2,0,none⟩) (n + m) c3) Z (cS (aB (aR (aO (v:=(.slice (some ⟨b2,0,none⟩) (n + m) c3)) (Ba Z Z) ?_))))
  exact ⟨b2,c3,zs4,rfl,(g7),by omega,hc8,hc9,hzs10,o11⟩
set_option maxHeartbeats 400000 in
set_option maxRecDepth 20000 in
theorem insBlkNG (w:World) (vb m:Nat) (vcs:List Value) (hv:Ob w vb 133 vcs) (hvl:vcs.length = m * 2) (hm:0 < m) (hmm:m ≤ 140737488355328) (hby:m * 16 ≤ 140737488355328):Ret prog 292 [(.slice none 0 0),(J 0),(.slice (some ⟨vb,0,none⟩) m m)] w (fun v w' => ∃ (b c':Nat) (zs:List Value),v = .slice (some ⟨b,0,none⟩) (0 + m) c'∧w.grownBy w' none∧w.heap.size ≤ b∧0 + m ≤ c'∧c' ≤ maxLen∧zs.length = (c' - (0 + m)) * 2∧Ob w' b 133 (([]:List (List Value)).flatten ++ vcs ++ zs)):=by
  refine aP func292 Z Z Z ?_
  refine cT (za (.slice none 0 0) Z (cS (cT (zm (.slice none 0 0) Z (zm (J 0) Z (zg Z (bV (n:=0) (i:=0) underlying45 sizeOf133 Z Z Z (by omega) Z) (cS (cT (zm (.slice (some ⟨vb,0,none⟩) m m) Z (zg Z (bR underlying45 Z) (za (J (m:Nat)) Z (cS (aD (cT ?_))))))))))))))
  refine zm (J (m:Nat)) Z (zg Z (bP (r:=false) Z Z (decide_eq_false (by omega))) (cS (aF Z (aA (aQ (cT (zm (.slice none 0 0) Z (zg Z (bR underlying45 Z) (za (J 0) Z (cS (aD (cT (zm (J 0) Z (zm (J 0) Z (zg Z (bP (r:=true) Z Z (by decide)) (cS (aE Z (cT ?_))))))))))))))))))
  refine zm (.slice none 0 0) Z (zm (.slice (some ⟨vb,0,none⟩) m m) Z (RL.apG (n:=0) (m:=m) (xs:=([]:List (List Value)).flatten) (ys:=vcs) el45 Z (Src.rd_ (Rd.nil_ _ 0 _ none) Z) (by omega) (Src.ob (off:=0) hv (by rw [List.drop_zero]; exact List.take_of_length_le (by omega)) (by omega)) (by omega) (by omega) Z Z ?_))
  intro w1 b2 c3 zs4 hb5 hz6 g7 hc8 hc9 hzs10 o11
  refine za (.slice (some ⟨b2,0,none⟩) (0 + m) c3) Z (cS (aB (aR (aO (v:=(.slice (some ⟨b2,0,none⟩) (0 + m) c3)) (Ba Z Z) ?_))))
  exact ⟨b2,c3,zs4,rfl,(g7),by omega,hc8,hc9,hzs10,o11⟩
set_option maxHeartbeats 1000000 in
theorem insBlk (w:World) (base n c i m vb:Nat) (A:Option Addr) (xss vss:List (List Value)) (hw:Wr w base 133 2 A n c xss) (hv:Ob w vb 133 vss.flatten) (hvl:vss.length = m) (hva : ∀ x ∈ vss,x.length = 2) (hm:0 < m) (hi:i ≤ n)
    (hne:(Value.slice A n c).ownBlock ≠ some vb) (h1x : ∀ u ∈ xss.flatten,u.oneCell' = true) (h1v : ∀ u ∈ vss.flatten,u.oneCell' = true) (hby:(n + m) * 16 ≤ 140737488355328) (hbase:base ≤ w.heap.size) :
    Ret prog 292 [.slice A n c, .int .i64 (i : Int), .slice (some ⟨vb, 0, none⟩) m m] w (fun v w' => ∃ (A' : Option Addr) (c' : Nat), v = .slice A' (n + m) c' ∧ w.grownBy w' (Value.slice A n c).ownBlock ∧ Wr w' base 133 2 A' (n + m) c' (xss.take i ++ vss ++ xss.drop i) ∧ Nx w A A') := by
  have hvf:vss.flatten.length = m * 2:=by rw [flat_len hva,hvl]
  have hall : ∀ x ∈ xss.take i ++ vss ++ xss.drop i,x.length = 2:=by
    intro x hx
    rcases List.mem_append.1 hx with hx | hx
    · rcases List.mem_append.1 hx with hx | hx
      · exact hw.all x (List.mem_of_mem_take hx)
      · exact hva x hx
    · exact hw.all x (List.mem_of_mem_drop hx)
  have hxl:=hw.len
  have hlen:(xss.take i ++ vss ++ xss.drop i).length = n + m:=by simp only [List.length_append,List.length_take,List.length_drop]; omega
  have hfl:(xss.take i ++ vss ++ xss.drop i).flatten = xss.flatten.take (i * 2) ++ vss.flatten ++ xss.flatten.drop (i * 2):=by
    rw [List.flatten_append,List.flatten_append,flat_take i hw.all,flat_drop i hw.all]
  have hXl:xss.flatten.length = n * 2:=by rw [flat_len hw.all,hxl]
  rcases hw.row with ⟨hA,hn0,hc0⟩ | ⟨g,off,cs,hA,hbg,ho,hl,hnc,hcm,hX⟩
  · subst hA; subst hn0; subst hc0
    have hi0:i = 0:=by omega
    subst hi0
    have hx0:xss = []:=List.eq_nil_of_length_eq_zero hxl
    subst hx0
    refine (insBlkNG w vb m vss.flatten hv hvf hm (by omega) (by omega)).mono ?_
    rintro v w' ⟨b,c',zs,rfl,hg,hb,h1,h2,h3,ob⟩
    refine ⟨_,_,rfl,hg,⟨hlen,hall,.inr ⟨b,0,_,rfl,by omega,ob,?_,h1,h2,?_⟩⟩,fun g0 hg0=>.inr (by simp only [bk,Option.map_some,Option.some.injEq] at hg0; omega)⟩
    · simp only [List.length_append,List.flatten_nil,List.length_nil,hvf,h3]; omega
    · rw [hfl]; simp only [List.flatten_nil,List.nil_append,List.take_nil,List.drop_nil,List.append_nil,List.drop_zero]
      rw [List.take_append_of_le_length (by omega),List.take_of_length_le (by omega)]
  · subst hA
    have hcm':c ≤ 9223372036854775807:=by simpa only [maxLen] using hcm
    have hgv:g ≠ vb:=by rintro rfl; exact hne rfl
    rcases Nat.lt_or_ge c (n + m) with hr | hr
    · rcases Nat.lt_or_ge i n with hin | hin
      · refine (insBlkMG w g vb off n c i m cs vss.flatten ho hv hl hvf hm hnc hcm' (by omega) hin hr hby (by rw [hX]; exact h1x) h1v).mono ?_
        rintro v w' ⟨b,c',zs,rfl,hg,hb,h1,h2,h3,ob⟩
        rw [hX,Nat.zero_add,Nat.zero_add,Nat.add_mul] at ob
        refine ⟨_,_,rfl,An hg _,⟨hlen,hall,.inr ⟨b,0,_,rfl,by omega,ob,?_,h1,h2,?_⟩⟩,fun g0 hg0=>.inr (by simp only [bk,Option.map_some,Option.some.injEq] at hg0; omega)⟩
        · have p0:(xss.flatten.take (i * 2) ++ zs).length = c' * 2:=by rw [List.length_append,List.length_take]; omega
          have p1:(pt (xss.flatten.take (i * 2) ++ zs) (i * 2) vss.flatten).length = c' * 2:=by rw [pt_length (by omega),p0]
          rw [pt_length (by rw [p1,List.length_drop]; omega),p1]; omega
        · rw [hfl,show (n + m) * 2 = n * 2 + m * 2 by omega]
          exact ins_new (L:=c' * 2) hXl hvf (by omega) h3 (by omega)
      · have hin:i = n:=by omega
        subst hin
        refine (insBlkEG w g vb off i c i m cs vss.flatten ho hv hl hvf hm hnc hcm' (by omega) Z hr hby h1v).mono ?_
        rintro v w' ⟨b,c',zs,rfl,hg,hb,h1,h2,h3,ob⟩
        rw [hX] at ob
        refine ⟨_,_,rfl,An hg _,⟨hlen,hall,.inr ⟨b,0,_,rfl,by omega,ob,?_,h1,h2,?_⟩⟩,fun g0 hg0=>.inr (by simp only [bk,Option.map_some,Option.some.injEq] at hg0; omega)⟩
        · simp only [List.length_append,hXl,hvf,h3]; omega
        · rw [hfl,List.drop_zero,List.take_append_of_le_length (by simp only [List.length_append,hXl,hvf]; omega),List.take_of_length_le (by simp only [List.length_append,hXl,hvf]; omega),List.take_of_length_le (by omega),List.drop_eq_nil_of_le (by omega),List.append_nil]
    · rcases Nat.lt_or_ge i n with hin | hin
      · refine (insBlkMR w g vb off n c i m cs vss.flatten ho hv hl hvf hm hnc hcm' (by omega) hgv hin hr (by rw [hX]; exact h1x) h1v).mono ?_
        rintro v w' ⟨rfl,hg,ob⟩
        rw [hX] at ob
        refine ⟨_,_,rfl,hg,⟨hlen,hall,.inr ⟨g,off,_,rfl,hbg,ob,?_,hr,hcm,?_⟩⟩,Nx.refl_ _ _⟩
        · have p1:(pt cs (off + (i + m) * 2) (xss.flatten.drop (i * 2))).length = cs.length:=pt_length (by rw [List.length_drop]; omega)
          rw [pt_length (by rw [p1]; omega),p1]; omega
        · rw [hfl,show (n + m) * 2 = n * 2 + m * 2 by omega,show off + (i + m) * 2 = off + i * 2 + m * 2 by omega]
          exact ins_room hX hXl hvf (by omega) (by omega)
      · have hin:i = n:=by omega
        subst hin
        refine (insBlkER w g vb off i c i m cs vss.flatten ho hv hl hvf hm hnc hcm' (by omega) Z hr h1v).mono ?_
        rintro v w' ⟨rfl,hg,ob⟩
        refine ⟨_,_,rfl,hg,⟨hlen,hall,.inr ⟨g,off,_,rfl,hbg,ob,?_,hr,hcm,?_⟩⟩,Nx.refl_ _ _⟩
        · rw [pt_length (by omega)]; omega
        · have h0:=ins_room (V:=vss.flatten) (I:=i * 2) hX hXl hvf (Nat.le_refl _) (by omega)
          have e0:xss.flatten.drop (i * 2) = []:=List.drop_eq_nil_of_le (by omega)
          rw [e0] at h0
          have e1:pt cs (off + i * 2 + m * 2) [] = cs:=by simp [pt]
          rw [e1] at h0
          rw [hfl,show (i + m) * 2 = i * 2 + m * 2 by omega,e0]
          exact h0
end Go.Proofs.YtfokljnhllflbaaGreat
namespace Go.Proofs.YtfokljnhllflbaaGreat
open Go Go.Eng Go.RowKit Go.Proofs.Tryz
set_option maxHeartbeats 400000 in
set_option maxRecDepth 20000 in
theorem hit_ (w:World) (size e:Int) (bb:Blk) (sz bp en:Nat) (hs:Ob w sz 3 [.int .i64 size]) (hb:Ob w bp 133 bb.cells) (he:Ob w en 3 [.int .i64 e]) (hz:size ≤ 256) (hee:e = bb.at_ + Af bb.ord) (x:RObj) (hx:0 ≤ x.blk.at_):Ret prog 291 [(.agg (x.cells).toArray),(.pointer (some ⟨sz,0,none⟩)),(.pointer (some ⟨bp,0,none⟩)),(.pointer (some ⟨en,0,none⟩))] w (fun v w'=>v = .bool (hitB size bb x.blk)∧w.grownBy w' none):=by
  refine aP func291 Z Z Z ?_
  refine cT (bH (cs:=x.cells) Z Z Z ?_)
  intro w1 b2 hb3 hz4 g5 o6
  refine za bF Z (cS (aD (aW (fun wq=>World.grownBy w1 wq none) Tryz.mixed (by kernel_rfl) ⟨Z,rfl,rfl,Nat.le_refl _,fun _ _ _=>rfl⟩ (QL.go Z Z Z (fun wq gq=>fa136_1 (b:=⟨b2,1,none⟩) Z Z) (QL.go Z Z Z (fun wq gq=>Cs (b:=⟨b2,1,none⟩) Z Z) (QL.go Z Z Z (fun wq gq=>bW Z (Ax Bw (Ob.cell (v:=(J x.blk.at_)) (o6.st0 gq) Z))) (QL.go Z Z Z (fun wq gq=>bW Z (Ax Bw (Ob.cell (v:=(J size)) ((hs.st0 g5).st0 gq) Z))) ?_)))))))
  refine QL.br (p:=(x.blk.at_:Int) ≤ (size:Int)) Z Z Z (fun r hr wq gq=>bM Z Z hr) (fun h7=>?_) (fun h7=>?_)
  ·refine QL.go Z Z Z (fun wq gq=>aX (v:=bT) Z) (QL.go Z Z Z (fun wq gq=>Cs (b:=⟨bp,0,none⟩) Z Z) (QL.go Z Z Z (fun wq gq=>bW Z (Ax Bw (Ob.cell (v:=(J bb.at_)) ((hb.st0 g5).st0 gq) Z))) (QL.go Z Z Z (fun wq gq=>fa136_1 (b:=⟨b2,1,none⟩) Z Z) (QL.go Z Z Z (fun wq gq=>Cs (b:=⟨b2,1,none⟩) Z Z) (QL.go Z Z Z (fun wq gq=>bW Z (Ax Bw (Ob.cell (v:=(J x.blk.at_)) (o6.st0 gq) Z))) (QL.go Z Z Z (fun wq gq=>fa136_1 (b:=⟨b2,1,none⟩) Z Z) (QL.go Z Z Z (fun wq gq=>Cg (b:=⟨b2,2,none⟩) Z Z) (QL.go Z Z Z (fun wq gq=>bW Z (Ax Bw (Ob.cell (v:=(J x.blk.ord)) (o6.st0 gq) Z))) ?_))))))))
   have wb8:=Bc x.blk.ord
   refine QL.call (v:=(J (Af x.blk.ord))) call201 (fun wq gq=>(words_ wq x.blk.ord).mono (fun _ _ hh=>⟨hh.1,hh.2 ▸ gq⟩)) Z Z Z (QL.go Z Z Z (fun wq gq=>bI (r:=x.blk.at_ + (Af x.blk.ord)) Z Z (Dl (by omega) (by omega))) ?_)
   refine QL.br (p:=(bb.at_:Int) < (x.blk.at_ + (Af x.blk.ord):Int)) Z Z Z (fun r hr wq gq=>bL Z Z hr) (fun h9=>?_) (fun h9=>?_)
   ·refine QL.go Z Z Z (fun wq gq=>aZ (v:=bT) Z Z) (QL.go Z Z Z (fun wq gq=>aX (v:=bT) Z) (QL.go Z Z Z (fun wq gq=>fa136_1 (b:=⟨b2,1,none⟩) Z Z) (QL.go Z Z Z (fun wq gq=>Cs (b:=⟨b2,1,none⟩) Z Z) (QL.go Z Z Z (fun wq gq=>bW Z (Ax Bw (Ob.cell (v:=(J x.blk.at_)) (o6.st0 gq) Z))) (QL.go Z Z Z (fun wq gq=>bW Z (Ax Bw (Ob.cell (v:=(J e)) ((he.st0 g5).st0 gq) Z))) ?_)))))
    refine QL.br (p:=(x.blk.at_:Int) < (e:Int)) Z Z Z (fun r hr wq gq=>bL Z Z hr) (fun h10=>?_) (fun h10=>?_)
    ·refine QL.go Z Z Z (fun wq gq=>aZ (v:=bT) Z Z) (QL.go Z Z Z (fun wq gq=>aY (v:=bT) Z) (QL.nil ?_))
     intro w11 g12
     have z13:=g12.size
     refine aQ (aB (aO (v:=bT) (Ba Z Z) ?_))
     exact ⟨by unfold hitB; rw [← hee]; simp [h7,h9,h10],(Ac (g5) g12)⟩
    ·refine QL.go Z Z Z (fun wq gq=>aZ (v:=bF) Z Z) (QL.go Z Z Z (fun wq gq=>aY (v:=bF) Z) (QL.nil ?_))
     intro w14 g15
     have z16:=g15.size
     refine aQ (aB (aO (v:=bF) (Ba Z Z) ?_))
     exact ⟨by unfold hitB; rw [← hee]; simp [h7,h9,h10],(Ac (g5) g15)⟩
   ·refine QL.go Z Z Z (fun wq gq=>aZ (v:=bF) Z Z) (QL.go Z Z Z (fun wq gq=>aX (v:=bF) Z) (QL.out Z Z Z (QL.out Z Z Z (QL.out Z Z Z (QL.out Z Z Z (QL.out Z Z Z (QL.go Z Z Z (fun wq gq=>bA (v:=bF) Z Z) (QL.go Z Z Z (fun wq gq=>aY (v:=bF) Z) (QL.nil ?_)))))))))
    intro w17 g18
    have z19:=g18.size
    refine aQ (aB (aO (v:=bF) (Ba Z Z) ?_))
    exact ⟨by unfold hitB; rw [← hee]; simp [h7,h9],(Ac (g5) g18)⟩
  ·refine QL.go Z Z Z (fun wq gq=>aX (v:=bF) Z) (QL.out Z Z Z (QL.out Z Z Z (QL.out Z Z Z (QL.out Z Z Z (QL.out Z Z Z (QL.out Z Z Z (QL.out Z Z Z (QL.out Z Z Z (QL.out Z Z Z (QL.out Z Z Z ?_))))))))))
   refine QL.out Z Z Z (QL.go Z Z Z (fun wq gq=>bA (v:=bF) Z Z) (QL.go Z Z Z (fun wq gq=>aX (v:=bF) Z) (QL.out Z Z Z (QL.out Z Z Z (QL.out Z Z Z (QL.out Z Z Z (QL.out Z Z Z (QL.go Z Z Z (fun wq gq=>bA (v:=bF) Z Z) (QL.go Z Z Z (fun wq gq=>aY (v:=bF) Z) (QL.nil ?_))))))))))
   intro w20 g21
   have z22:=g21.size
   refine aQ (aB (aO (v:=bF) (Ba Z Z) ?_))
   exact ⟨by unfold hitB; rw [← hee]; simp [h7],(Ac (g5) g21)⟩
set_option maxHeartbeats 400000 in
set_option maxRecDepth 20000 in
theorem ixHit (w:World) (size e:Int) (bb:Blk) (sz bp en:Nat) (hs:Ob w sz 3 [.int .i64 size]) (hb:Ob w bp 133 bb.cells) (he:Ob w en 3 [.int .i64 e]) (hz:size ≤ 256) (hee:e = bb.at_ + Af bb.ord) (ros:List RObj) (A:Option Addr) (n c B:Nat) (hr:Rd w B 5 A (Cp ros)) (hn:n = ros.length) (hm:ros.length ≤ 140737488351232) (hx : ∀ x ∈ ros,0 ≤ x.blk.at_):Ret prog 314 [(.slice A n c),(.func (.func 291) #[] #[(.pointer (some ⟨sz,0,none⟩)),(.pointer (some ⟨bp,0,none⟩)),(.pointer (some ⟨en,0,none⟩))])] w (fun v w'=>v = .int .i64 (idxF (fun x=>hitB size bb x.blk) ros)∧w.grownBy w' none):=by
  refine aP func314 Z Z Z ?_
  refine cT (za (J 0) Z (cS (aD (cT (zm (.slice A n c) Z (zg Z (bR underlying43 Z) (zm (J 0) Z (cS (aG ?_)))))))))
  refine aK (fun t=>(Nat.ble 4 t && Nat.ble t 5) || (Nat.ble 8 t && Nat.ble t 18)) (fun n ρ wl => ∃ (k:Nat),ρ 8 = (J (k:Int))∧n = ros.length - k∧World.grownBy w wl none∧k ≤ ros.length∧idxFrom (fun x=>hitB size bb x.blk) k (ros.drop k) = idxF (fun x=>hitB size bb x.blk) ros) (ros.length) ?aa0 ?bb0
  case aa0=>exact ⟨0,rfl,rfl,Bs _ _,Nat.zero_le _,rfl⟩
  case bb0 =>
   rintro n3 ρ0 w1 ho4 ⟨k,hs0_8,hn0,g2,hk,hix⟩
   obtain ⟨j0,rfl⟩:=ho4.shape1 hs0_8
   clear ho4 hs0_8
   subst hn0
   have z5:=g2.size
   refine cT ?_
   refine zc (((k:Int):Int) < ((n:Nat):Int)) Z (fun r hr=>bL Z Z hr) (fun h6=>?_) (fun h6=>?_)
   ·refine cS (aD (aE Z (aA (aQ (aD (aG (cT (zm (J (k:Int)) Z (za (J (k:Int)) Z (cS (cT (zm (.func (.func 291) #[] #[(.pointer (some ⟨sz,0,none⟩)),(.pointer (some ⟨bp,0,none⟩)),(.pointer (some ⟨en,0,none⟩))]) Z (zm (.slice A n c) Z (zm (J (k:Int)) Z ?_))))))))))))))
    have r7:=(hr.st0 g2)
    obtain ⟨e8,he9⟩ : ∃ e,(ros)[k]? = some e:=⟨_,List.getElem?_eq_getElem (by omega)⟩
    obtain ⟨ad10,hA11,hB12,c13⟩:=r7.at_ (Cj he9)
    have hl14:=Eng.lt_len (Cj he9)
    refine zg Z (bS (b:=ad10.add (k * 5)) (i:=k) underlying43 sizeOf136 (by rw [← hA11]; rfl) Z (by omega) (by omega) Z) (zg Z (bW Z (Aj (cs:=e8.cells) wh136 c13)) ?_)
    have o15:=(hs.st0 g2)
    have o16:=(hb.st0 g2)
    have o17:=(he.st0 g2)
    refine aV call291 Z (hit_ _ _ _ _ _ _ _ o15 o16 o17 hz hee e8 (hx e8 (List.mem_of_getElem? he9))) Z Z Z ?_
    rintro _ w18 ⟨rfl,g19⟩
    have z20:=g19.size
    rcases hb21:(hitB size bb e8.blk) with _ | _
    ·refine cS (aF Z (aA (inB.n (aQ (aL (zg Z (bI (r:=(k:Int) + 1) Z Z (Dl (by omega) (by omega))) (zm (J ((k:Int) + 1)) Z (cS ?_))))))))
     refine ⟨(by repeat (first | exact aJ _ _ | exact aH _ _ | refine aI ?_ Z _)),_,?_,⟨k + 1,rfl,rfl,(Ac (g2) g19),by omega,idxF_go hix he9 hb21⟩⟩
     omega
    ·refine cS (aE Z (cT (zm (J (k:Int)) Z (za (J (k:Int)) Z (cS (aB (inB.r (aR (aR (inB.r (aR (aO (v:=(J (k:Int))) (Ba Z Z) ?_))))))))))))
     exact ⟨Bi (idxF_yes hix he9 hb21),(Ac (g2) g19)⟩
   ·refine cS (aD (aF Z (aC (aS (aS (Bo (aQ (cT (za (J (-1)) Z (cS (aB (aO (v:=(J (-1))) (Ba Z Z) ?_))))))))))))
    exact ⟨Bi (idxF_end hix (by omega)),(g2)⟩
set_option maxHeartbeats 400000 in
set_option maxRecDepth 20000 in
theorem ctHit (w:World) (size e:Int) (bb:Blk) (sz bp en:Nat) (hs:Ob w sz 3 [.int .i64 size]) (hb:Ob w bp 133 bb.cells) (he:Ob w en 3 [.int .i64 e]) (hz:size ≤ 256) (hee:e = bb.at_ + Af bb.ord) (ros:List RObj) (A:Option Addr) (n c B:Nat) (hr:Rd w B 5 A (Cp ros)) (hn:n = ros.length) (hm:ros.length ≤ 140737488351232) (hx : ∀ x ∈ ros,0 ≤ x.blk.at_):Ret prog 290 [(.slice A n c),(.func (.func 291) #[] #[(.pointer (some ⟨sz,0,none⟩)),(.pointer (some ⟨bp,0,none⟩)),(.pointer (some ⟨en,0,none⟩))])] w (fun v w'=>v = .bool (ros.any (fun x=>hitB size bb x.blk))∧w.grownBy w' none):=by
  refine aP func290 Z Z Z ?_
  refine cT (za bF Z (cS (cT (zm (.slice A n c) Z (zm (.func (.func 291) #[] #[(.pointer (some ⟨sz,0,none⟩)),(.pointer (some ⟨bp,0,none⟩)),(.pointer (some ⟨en,0,none⟩))]) Z (aU call314 (ixHit _ _ _ _ _ _ _ hs hb he hz hee ros _ _ _ _ hr hn hm hx) Z Z Z ?_))))))
  rintro _ w1 ⟨rfl,g2⟩
  have z3:=g2.size
  refine zg Z (bO (r:=(ros).any (fun x=>hitB size bb x.blk)) Z Z (idxF_any _ _)) (za (.bool ((ros).any (fun x=>hitB size bb x.blk))) Z (cS (aB (aO (v:=(.bool ((ros).any (fun x=>hitB size bb x.blk)))) (Ba Z Z) ?_))))
  exact ⟨Z,(g2)⟩
set_option maxHeartbeats 2000000 in
set_option maxRecDepth 20000 in
theorem left7_ (w:World) (order:Int) (b0r B n c:Nat) (A:Option Addr) (ros:List RObj) (ho:0 ≤ order∧order ≤ 8) (hf:Ob w b0r 133 [.int .i64 0,.int .i64 order]) (hr:Rd w B 5 A (Cp ros)) (hn:n = ros.length) (hm:ros.length ≤ 140737488351232) (hx : ∀ x ∈ ros,0 ≤ x.blk.at_) (hB:B ≤ b0r):Ret prog 260 [(J order),(.slice (some ⟨b0r,0,none⟩) 1 1),(.slice A n c)] w (fun v w' => ∃ (ou:List Blk) (A8:Option Addr) (n8 c8:Nat),v = .slice A8 n8 c8∧w.grownBy w' (some b0r)∧n8 = ou.length∧ou = Dq (Af order) (ros.map RObj.blk) [⟨0,order⟩]∧ou.length ≤ 511∧Wr w' w.heap.size 133 2 A8 n8 c8 (Cq ou)):=by
  have hwo:=Bc order
  have hflt:=hf.lt
  have hin0:inReg [⟨0,order⟩]:=by intro x hx; simp at hx; subst hx; simp only; omega
  refine aP func260 Z Z Z ?_
  refine cT (za (.slice none 0 0) Z (cS (cT (zm (J order) Z ?_))))
  have wb1:=Bc order
  refine aU call201 (words_ _ order) Z Z Z ?_
  rintro _ _ ⟨rfl,rfl⟩
  refine bG (cs:=[(J 0)]) zeroValue3 Z Z Z ?_
  intro w2 b3 hb4 hz5 g6 o7
  refine bE (vs:=[(J (Af order))]) (cs':=[(J (Af order))]) sizeOf3 o7 Z Z Z Z Z Z ?_
  intro w8 hz9 g10 o11
  refine cS (cT (za (.slice none 0 0) Z (cS (aD (aG ?_)))))
  have o12:=((hf.st0 g6).st1 g10 (by omega))
  refine aK (fun t=>Nat.beq t 1 || (Nat.ble 8 t && Nat.ble t 11) || (Nat.ble 14 t && Nat.ble t 57)) (fun n ρ wl => ∃ (fl ou:List Blk) (A1 A8:Option Addr) (n1 c1 n8 c8:Nat),ρ 1 = (.slice A1 n1 c1)∧ρ 8 = (.slice A8 n8 c8)∧n = wts fl∧World.grownBy w8 wl (some b0r)∧Wr wl b0r 133 2 A1 n1 c1 (Cq fl)∧Wr wl w8.heap.size 133 2 A8 n8 c8 (Cq ou)∧Sep A1 A8∧Nx w8 (some ⟨b0r,0,none⟩) A1∧inReg fl∧ou.length + wts fl ≤ 511∧ou ++ Dq (Af order) (ros.map RObj.blk) fl = Dq (Af order) (ros.map RObj.blk) [⟨0,order⟩]) (wts [⟨0,order⟩]) ?aa0 ?bb0
  case aa0=>exact ⟨[⟨0,order⟩],[],(some ⟨b0r,0,none⟩),none,1,1,0,0,rfl,rfl,rfl,Bs _ _,Wr.of_ob o12 rfl (Nat.le_refl _),Wr.nil_ _ _ _ _,Sep.none_ _,Nx.refl_ _ _,hin0,by have:=wts1 ho.1 ho.2; simp only [List.length_nil]; omega,rfl⟩
  case bb0 =>
   rintro n15 ρ0 w13 ho16 ⟨fl,ou,A1,A8,n1,c1,n8,c8,hs0_1,hs0_8,hn0,g14,ow1,ow8,sp,nx1,hin,hsz,hres⟩
   obtain ⟨j0,rfl⟩:=ho16.shape2 hs0_1 hs0_8
   clear ho16 hs0_1 hs0_8
   subst hn0
   have z17:=g14.size
   have hl1:=ow1.len
   have hl8:=ow8.len
   rw [Am] at hl1 hl8
   have hwl:=wts_len fl
   refine aD (cT (zm (.slice A1 n1 c1) Z (zg Z (bR underlying45 Z) ?_)))
   refine zc ((0:Int) < ((n1:Nat):Int)) Z (fun r hr=>bN Z Z hr) (fun h18=>?_) (fun h18=>?_)
   ·refine cS (aE Z (aA (aQ (aG (cT ?_)))))
    obtain ⟨b0,fl',rfl⟩ : ∃ b0 fl',fl = b0 :: fl':=by
     cases fl with
     | nil=>simp at hl1; omega
     | cons x l=>exact ⟨x,l,rfl⟩
    have hw0:=wts_cons b0 fl'
    have hwp:=wt_pos b0
    have hwl':=wts_len fl'
    have hbb:=hin b0 (by simp)
    have hin':inReg fl':=fun x hx=>hin x (List.mem_cons_of_mem _ hx)
    have hwd:=Bc b0.ord
    simp only [List.length_cons] at hl1
    refine zm (.slice A1 n1 c1) Z ?_
    obtain ⟨ad19, hA20, hB21, c22⟩ := (ow1.rd).at_ (show (Cq (b0 :: fl'))[0]? = some b0.cells from rfl)
    have hl23 := Eng.lt_len (show (Cq (b0 :: fl'))[0]? = some b0.cells from rfl)
    refine zg Z (bS (b:=ad19.add (0 * 2)) (i:=0) underlying45 sizeOf133 (by rw [← hA20]; rfl) Z (by omega) (by omega) Z) (zg Z (bW Z (Aj (cs:=b0.cells) wh133 c22)) (bG (cs:=[(J 0),(J 0)]) zeroValue133 Z Z Z ?_))
    intro w24 b25 hb26 hz27 g28 o29
    refine bE (vs:=b0.cells) (cs':=b0.cells) sizeOf133 o29 Z Z Z Z Z Z ?_
    intro w30 hz31 g32 o33
    refine cS (cT (zm (.slice A1 n1 c1) Z ?_))
    have w34:=((ow1.st0 g28).st1 g32 (Wr.ne_or ow1 (by omega)))
    refine RL.slW (i:=1) underlying45 sizeOf133 w34 Z Z Z (by omega) Z Z ?_
    intro A35 hbk36 ow37
    refine za (.slice A35 (n1 - 1) (c1 - 1)) Z (cS (aD (CW.float 6 _ (fun b=>.pointer (some ⟨b,0,none⟩)) 3 ([(J 0)]) Tryz.mixed (by kernel_rfl) Z Z Z (QG.go Z Z Z (fun wq gq=>Cs (b:=⟨b25,0,none⟩) Z Z) (QG.go Z Z Z (fun wq gq=>bW Z (Ax Bw (Ob.cell (v:=(J b0.at_)) (o33.st0 gq) Z))) (QG.go Z Z Z (fun wq gq=>Cg (b:=⟨b25,1,none⟩) Z Z) (QG.go Z Z Z (fun wq gq=>bW Z (Ax Bw (Ob.cell (v:=(J b0.ord)) (o33.st0 gq) Z))) ?_)))))))
    have wb38:=Bc b0.ord
    refine QG.call (v:=(J (Af b0.ord))) call201 (fun wq gq=>(words_ wq b0.ord).mono (fun _ _ hh=>⟨hh.1,hh.2 ▸ Bs _ _⟩)) Z Z Z (QG.go Z Z Z (fun wq gq=>bI (r:=b0.at_ + (Af b0.ord)) Z Z (Dl (by omega) (by omega))) (QG.nil ?_))
    refine ⟨XE.al zeroValue3 Z Z,?_⟩
    intro b40 w39 hb41 g42 o43
    have z44:=o43.lt
    have z45:=g42.size
    refine bE (vs:=[(J (b0.at_ + (Af b0.ord)))]) (cs':=[(J (b0.at_ + (Af b0.ord)))]) sizeOf3 o43 Z Z Z Z Z Z ?_
    intro w46 hz47 g48 o49
    refine cS (aG (cT (zm (.slice A n c) Z (zg Z (Ex.mkf (v:=(.func (.func 291) #[] #[(.pointer (some ⟨b3,0,none⟩)),(.pointer (some ⟨b25,0,none⟩)),(.pointer (some ⟨b40,0,none⟩))])) Z) ?_))))
    have o50:=(((((o11.st1 g14 (by omega)).st0 g28).st1 g32 (by omega)).st0 g42).st1 g48 (by omega))
    have o51:=((o33.st0 g42).st1 g48 (by omega))
    have r52:=(((((((hr.st0 g6).st1 g10 (by omega)).st1 g14 (by omega)).st0 g28).st1 g32 (by omega)).st0 g42).st1 g48 (by omega))
    refine aU call290 (ctHit _ (Af order) _ b0 _ _ _ o50 o51 o49 (by omega) Z ros _ _ _ _ r52 hn hm hx) Z Z Z ?_
    rintro _ w53 ⟨rfl,g54⟩
    have z55:=g54.size
    rcases hb56:(ros.any (fun x=>hitB (Af order) b0 x.blk)) with _ | _
    ·refine zg Z (bC (b:=false) Z) (za bT Z (cS (aE Z (aL ?_))))
     have hany:(ros.map RObj.blk).any (hitB (Af order) b0) = false:=by rw [List.any_map]; exact hb56
     refine zm (.slice A8 n8 c8) Z ?_
     have o57:=(o51.st0 g54)
     refine zg Z (bW Z (Aj (cs:=b0.cells) wh133 o57.cl)) (cF (cs:=b0.cells) underlying45 sizeOf133 ze45 Z Z Z (by decide) Z Z Z ?_)
     intro w58 b59 hb60 hz61 g62 o63
     have w65:=((((ow37.st0 g42).st1 g48 (Wr.ne_or ow37 (by omega))).st0 g54).st0 g62)
     have ow1s:=w65
     have w66:=((((((ow8.st0 g28).st1 g32 (Wr.ne_or ow8 (by omega))).st0 g42).st1 g48 (Wr.ne_or ow8 (by omega))).st0 g54).st0 g62)
     refine cL (base:=w8.heap.size) (xss:=Cq ou) (yss:=[b0.cells]) el45 w66 Z (Ob.rd1 o63 Z) Z Z (by simp [Value.oneCell',Entry.cells,Row.cells,Blk.cells,RObj.cells]) (by omega) (by omega) (by omega) Z Z ?_
     intro w67 A68 c69 g70 ow71 nx72
     have z73:=g70.size
     refine za (.slice A68 (n8 + 1) c69) Z (aM (inB.n (inB.n (aQ ?_))))
     have w74:=(w65.apart (Sep.of_bk sp hbk36) g70)
     refine ⟨(by repeat (first | exact aJ _ _ | exact aH _ _ | refine aI ?_ Z _)),_,?_,⟨fl',ou ++ [b0],_,_,_,_,_,_,rfl,rfl,rfl,(grow_wr (Ae (Ae (Ah (Ae (Ah (Ae (g14) (An g28 _)) g32 (by omega)) (An g42 _)) g48 (by omega)) (An g54 _)) (An g62 _)) g70 w66 (by omega)),w74,(by rw [blks_app]; exact ow71),(Sep.of_bk sp hbk36).right ow1s nx72,nx1.of_bk hbk36,hin',by simp; omega,by rw [← hres,leftL_out hany,List.append_assoc]; rfl⟩⟩
     first | (simp only [wts_cons]; omega) | omega
    ·refine zg Z (bC (b:=true) Z) (za bF Z (cS (aF Z (cT ?_))))
     have hany:(ros.map RObj.blk).any (hitB (Af order) b0) = true:=by rw [List.any_map]; exact hb56
     refine zg Z (Cg (b:=⟨b25,1,none⟩) Z Z) ?_
     have o75:=(o51.st0 g54)
     refine zl (J b0.ord) Bw o75 Z ?_
     refine zc ((0:Int) < (b0.ord:Int)) Z (fun r hr=>bN Z Z hr) (fun h76=>?_) (fun h76=>?_)
     ·refine za bT Z (cS (aE Z (cT ?_)))
      have hha:=wordsI_half (o:=b0.ord) (by omega) (by omega)
      have hwh:=wt_half (b:=b0) (by omega) b0.at_ (b0.at_ + Af (b0.ord - 1))
      have hwd2:=Bc (b0.ord - 1)
      have hinh : inReg (⟨b0.at_, b0.ord - 1⟩ :: ⟨b0.at_ + Af (b0.ord - 1), b0.ord - 1⟩ :: fl') := by
       intro x hx
       rcases List.mem_cons.1 hx with rfl | hx
       ·simp only; omega
       rcases List.mem_cons.1 hx with rfl | hx
       ·simp only; omega
       ·exact hin' x hx
      refine zg Z (Cg (b:=⟨b25,1,none⟩) Z Z) (zl (J b0.ord) Bw o75 Z (zg Z (bJ (r:=b0.ord - 1) Z Z (Dl (by omega) (by omega))) (za (J (b0.ord - 1)) Z (cS (CW.float 12 _ (fun b=>.slice (some ⟨b,0,none⟩) 2 2) 133 ([(J b0.at_),(J (b0.ord - 1)),(J (b0.at_ + (Af (b0.ord - 1)))),(J (b0.ord - 1))]) Tryz.mixed (by kernel_rfl) Z Z Z (QG.go Z Z Z (fun wq gq=>aX (v:=(.slice A35 (n1 - 1) (c1 - 1))) Z) (QG.go Z Z Z (fun wq gq=>Cs (b:=⟨b25,0,none⟩) Z Z) (QG.go Z Z Z (fun wq gq=>bW Z (Ax Bw (Ob.cell (v:=(J b0.at_)) (o75.st0 gq) Z))) (QG.go Z Z Z (fun wq gq=>aX (v:=(J (b0.ord - 1))) Z) (QG.go Z Z Z (fun wq gq=>bY (cs:=[(J b0.at_),(J (b0.ord - 1))]) bd133 Z) ?_))))))))))
      refine QG.go Z Z Z (fun wq gq=>Cs (b:=⟨b25,0,none⟩) Z Z) (QG.go Z Z Z (fun wq gq=>bW Z (Ax Bw (Ob.cell (v:=(J b0.at_)) (o75.st0 gq) Z))) (QG.go Z Z Z (fun wq gq=>aX (v:=(J (b0.ord - 1))) Z) ?_))
      have wb77:=Bc (b0.ord - 1)
      refine QG.call (v:=(J (Af (b0.ord - 1)))) call201 (fun wq gq=>(words_ wq (b0.ord - 1)).mono (fun _ _ hh=>⟨hh.1,hh.2 ▸ Bs _ _⟩)) Z Z Z (QG.go Z Z Z (fun wq gq=>bI (r:=b0.at_ + (Af (b0.ord - 1))) Z Z (Dl (by omega) (by omega))) (QG.go Z Z Z (fun wq gq=>aX (v:=(J (b0.ord - 1))) Z) (QG.go Z Z Z (fun wq gq=>bY (cs:=[(J (b0.at_ + (Af (b0.ord - 1)))),(J (b0.ord - 1))]) bd133 Z) (QG.nil ?_))))
      refine ⟨XE.bs underlying45 sizeOf133 ze45 Z Z Z (by decide) Z Z,?_⟩
      intro b79 w78 hb80 g81 o82
      have z83:=o82.lt
      have z84:=g81.size
      have w85:=((((ow37.st0 g42).st1 g48 (Wr.ne_or ow37 (by omega))).st0 g54).st0 g81)
      have w86:=((((((ow8.st0 g28).st1 g32 (Wr.ne_or ow8 (by omega))).st0 g42).st1 g48 (Wr.ne_or ow8 (by omega))).st0 g54).st0 g81)
      have ow8s:=w86
      have nxa:=nx1.of_bk hbk36
      refine aU call292 (insBlk _ b0r _ _ 0 2 _ _ (Cq fl') [[(J b0.at_), (J (b0.ord - 1))], [(J (b0.at_ + (Af (b0.ord - 1)))), (J (b0.ord - 1))]] w85 o82 Z (by simp) (by omega) (by omega) (by first | exact Wr.ne_or ow37 (by omega)) (blks_one _) (by simp [Value.oneCell']) (by omega) (by omega)) Z Z Z ?_
      rintro _ w91 ⟨A87,c88,rfl,g92,ow89,nx90⟩
      have z93:=g92.size
      refine za (.slice A87 ((n1 - 1) + 2) c88) Z (aM (inB.n (inB.n (aQ ?_))))
      have w94:=(w86.apart (Sep.symm (Sep.of_bk sp hbk36)) g92)
      refine ⟨(by repeat (first | exact aJ _ _ | exact aH _ _ | refine aI ?_ Z _)),_,?_,⟨⟨b0.at_,b0.ord - 1⟩ :: ⟨b0.at_ + Af (b0.ord - 1),b0.ord - 1⟩ :: fl',ou,_,_,_,_,_,_,rfl,rfl,rfl,(grow_nx (Ae (Ae (Ah (Ae (Ah (Ae (g14) (An g28 _)) g32 (by omega)) (An g42 _)) g48 (by omega)) (An g54 _)) (An g81 _)) g92 nxa Z),ow89,w94,(Sep.of_bk sp hbk36).left ow8s nx90,nxa.trans_ nx90 (by omega),hinh,by simp only [wts_cons]; omega,by rw [← hres,leftL_half hany (by omega) (by omega)]⟩⟩
      first | (simp only [wts_cons]; omega) | omega
     ·refine za bF Z (cS (aF Z (aA (inB.n (inB.n (aQ ?_))))))
      have w95:=(((ow37.st0 g42).st1 g48 (Wr.ne_or ow37 (by omega))).st0 g54)
      have w96:=(((((ow8.st0 g28).st1 g32 (Wr.ne_or ow8 (by omega))).st0 g42).st1 g48 (Wr.ne_or ow8 (by omega))).st0 g54)
      refine ⟨(by repeat (first | exact aJ _ _ | exact aH _ _ | refine aI ?_ Z _)),_,?_,⟨fl',ou,_,_,_,_,_,_,rfl,rfl,rfl,(Ae (Ah (Ae (Ah (Ae (g14) (An g28 _)) g32 (by omega)) (An g42 _)) g48 (by omega)) (An g54 _)),w95,w96,Sep.of_bk sp hbk36,nx1.of_bk hbk36,hin',by omega,by rw [← hres,leftL_gone hany (by omega)]⟩⟩
      first | (simp only [wts_cons]; omega) | omega
   ·refine cS (aF Z (aC (aS (aS (Bo (aQ (cT (zm (.slice A8 n8 c8) Z (za (.slice A8 n8 c8) Z (cS (aB (aO (v:=(.slice A8 n8 c8)) (Ba Z Z) ?_))))))))))))
    have hfl:fl = []:=List.eq_nil_of_length_eq_zero (by omega)
    subst hfl
    have hre:ou = Dq (Af order) (ros.map RObj.blk) [⟨0,order⟩]:=by rw [← hres]; simp [Dq]
    exact ⟨ou,A8,n8,c8,rfl,(Ae (Ah (An g6 _) g10 (by omega)) g14),hl8.symm,hre,by omega,ow8.weak (by omega)⟩
end Go.Proofs.YtfokljnhllflbaaGreat
namespace Go.Proofs.YtfokljnhllflbaaGreat
open Go Go.Eng Go.RowKit Go.Proofs.Tryz
theorem all_ (w:World) (o:Int):Ret prog 217 [.int .i64 o] w (fun v w'=>(∃ b:Nat,v = .tuple #[.slice (some ⟨b,0,none⟩) 1 1,.int .i64 0]∧w.grownBy w' none∧w.heap.size ≤ b∧Ob w' b 133 [.int .i64 0,.int .i64 o]∧Az o 3 8 = true) ∨ (v = .tuple #[.slice none 0 0,.int .i64 1]∧w.grownBy w' none∧Az o 3 8 = false)):=by
  cases h:Az o 3 8 with
  | true=>exact (all_yes w o h).mono fun v w' ⟨b,h1,h2,h3,h4⟩=>.inl ⟨b,h1,h2,h3,h4,rfl⟩
  | false=>exact (all_no w o h).mono fun v w' ⟨h1,h2⟩=>.inr ⟨h1,h2,rfl⟩
set_option maxHeartbeats 2000000 in
set_option maxRecDepth 20000 in
theorem in_heap (w : World) (B ib rb n c : Nat) (bs : List UInt8) (A : Option Addr) (hq : In w B ib rb bs A n c) : RP prog 219 [(.pointer (some ⟨ib, 0, none⟩))] w (fun v w' => ∃ (h : Heap) (rh : RHeap) (ros : List RObj) (rest : List UInt8) (A' : Option Addr) (n' c' : Nat), v = .agg rh.cells.toArray ∧ w.grownBy w' (some rb) ∧ rdHeap bs = some (h, rest) ∧ Dc h = true ∧ HeapO w' w.heap.size rh ros h ∧ In w' B ib rb rest A' n' c') (fun w' => w.grownBy w' (some rb) ∧ rdHeap bs = none) := by
  have hn:=hq.rdr.len
  have hc:=hq.rdr.cap
  have hm:=hq.rdr.max
  have hne:=hq.ne
  have hlt:=hq.rdr.lt
  have hli:=hq.lti
  have hsr:=hq.rdr.ob.lt
  have hsi:=hq.inb.lt
  refine RP.body func219 Z Z Z ?_
  refine cT (bG (cs:=[(J 0),(.slice none 0 0),(J 0),(J 0),(J 0),(J 0),(J 0),(.slice none 0 0)]) zeroValue47 Z Z Z ?_)
  intro w1 b2 hb3 hz4 g5 o6
  refine cS (cT (bG (cs:=[(J 0),(.slice none 0 0),(J 0),(J 0),(J 0),(J 0),(J 0),(.slice none 0 0)]) zeroValue47 Z Z Z ?_))
  intro w7 b8 hb9 hz10 g11 o12
  refine cS (cT (zm (.pointer (some ⟨ib,0,none⟩)) Z ?_))
  have i13:=((hq.st0 g5).st0 g11)
  refine cB call182 (in_n _ _ _ _ _ _ _ _ i13) Z Z Z ?_ ?_
  ·rintro _ w23 ⟨x14,rest15,A16,n17,c18,rfl,g24,hr20,q19⟩; have z25:=g24.size; have hv22:=Dh hr20
   refine zg Z (fa47_0 (b:=⟨b8,0,none⟩) Z Z) ?_
   have o28:=(o12.st1 g24 (by omega))
   refine bE (vs:=[(J x14)]) (cs':=[(J x14),(.slice none 0 0),(J 0),(J 0),(J 0),(J 0),(J 0),(.slice none 0 0)]) sizeOf3 o28 Z Z Z Z Z Z ?_
   intro w29 hz30 g31 o32
   refine cS (cT (zm (.pointer (some ⟨ib,0,none⟩)) Z ?_))
   have i33:=(q19.st1 g31 (by omega) (by omega) (by omega))
   refine cB call182 (in_n _ _ _ _ _ _ _ _ i33) Z Z Z ?_ ?_
   ·rintro _ w43 ⟨x34,rest35,A36,n37,c38,rfl,g44,hr40,q39⟩; have z45:=g44.size; have hv42:=Dh hr40
    refine zg Z (fa47_2 (b:=⟨b8,2,none⟩) Z Z) ?_
    have o48:=(o32.st1 g44 (by omega))
    refine bE (vs:=[(J x34)]) (cs':=[(J x14),(.slice none 0 0),(J x34),(J 0),(J 0),(J 0),(J 0),(.slice none 0 0)]) sizeOf3 o48 Z Z Z Z Z Z ?_
    intro w49 hz50 g51 o52
    refine cS (aD (cT (zm (J 0) Z (cS (aG (cJ (Dd (cT (zg Z (bL (r:=true) Z Z (by decide)) (cS (aD (aE Z (aA (aQ (aD (aG (cT (zm (J 0) Z (za (J 0) Z (cS (aL ?_)))))))))))))))))))))
    refine zm (J 0) Z (zm (.pointer (some ⟨ib,0,none⟩)) Z ?_)
    have i53:=(q39.st1 g51 (by omega) (by omega) (by omega))
    refine cB call182 (in_n _ _ _ _ _ _ _ _ i53) Z Z Z ?_ ?_
    ·rintro _ w63 ⟨x54,rest55,A56,n57,c58,rfl,g65,hr60,q59⟩; have z66:=g65.size; have hv62:=Dh hr60
     refine zg Z (fa47_3 (b:=⟨b8,3,none⟩) Z Z) (zg Z (cI (b:=⟨b8,3,none⟩) (i:=0) underlying44 sizeOf3 Z Z Z Z Z) ?_)
     have o69:=(o52.st1 g65 (by omega))
     refine bE (vs:=[(J x54)]) (cs':=[(J x14),(.slice none 0 0),(J x34),(J x54),(J 0),(J 0),(J 0),(.slice none 0 0)]) sizeOf3 o69 Z Z Z Z Z Z ?_
     intro w70 hz71 g72 o73
     refine aM (inB.n (aQ (aL (zg Z (bI (r:=1) Z Z Z) (zm (J 1) Z (cS (Dd (cT (zg Z (bL (r:=true) Z Z (by decide)) (cS (aD (aE Z (aA (aQ (aD (aG (cT (zm (J 1) Z (za (J 1) Z (cS (aL ?_)))))))))))))))))))))
     refine zm (J 1) Z (zm (.pointer (some ⟨ib,0,none⟩)) Z ?_)
     have i74:=(q59.st1 g72 (by omega) (by omega) (by omega))
     refine cB call182 (in_n _ _ _ _ _ _ _ _ i74) Z Z Z ?_ ?_
     ·rintro _ w84 ⟨x75,rest76,A77,n78,c79,rfl,g85,hr81,q80⟩; have z86:=g85.size; have hv83:=Dh hr81
      refine zg Z (fa47_3 (b:=⟨b8,3,none⟩) Z Z) (zg Z (cI (b:=⟨b8,4,none⟩) (i:=1) underlying44 sizeOf3 Z Z Z Z Z) ?_)
      have o89:=(o73.st1 g85 (by omega))
      refine bE (vs:=[(J x75)]) (cs':=[(J x14),(.slice none 0 0),(J x34),(J x54),(J x75),(J 0),(J 0),(.slice none 0 0)]) sizeOf3 o89 Z Z Z Z Z Z ?_
      intro w90 hz91 g92 o93
      refine aM (inB.n (aQ (aL (zg Z (bI (r:=2) Z Z Z) (zm (J 2) Z (cS (Dd (cT (zg Z (bL (r:=true) Z Z (by decide)) (cS (aD (aE Z (aA (aQ (aD (aG (cT (zm (J 2) Z (za (J 2) Z (cS (aL ?_)))))))))))))))))))))
      refine zm (J 2) Z (zm (.pointer (some ⟨ib,0,none⟩)) Z ?_)
      have i94:=(q80.st1 g92 (by omega) (by omega) (by omega))
      refine cB call182 (in_n _ _ _ _ _ _ _ _ i94) Z Z Z ?_ ?_
      ·rintro _ w104 ⟨x95,rest96,A97,n98,c99,rfl,g105,hr101,q100⟩; have z106:=g105.size; have hv103:=Dh hr101
       refine zg Z (fa47_3 (b:=⟨b8,3,none⟩) Z Z) (zg Z (cI (b:=⟨b8,5,none⟩) (i:=2) underlying44 sizeOf3 Z Z Z Z Z) ?_)
       have o109:=(o93.st1 g105 (by omega))
       refine bE (vs:=[(J x95)]) (cs':=[(J x14),(.slice none 0 0),(J x34),(J x54),(J x75),(J x95),(J 0),(.slice none 0 0)]) sizeOf3 o109 Z Z Z Z Z Z ?_
       intro w110 hz111 g112 o113
       refine aM (inB.n (aQ (aL (zg Z (bI (r:=3) Z Z Z) (zm (J 3) Z (cS (Dd (cT (zg Z (bL (r:=true) Z Z (by decide)) (cS (aD (aE Z (aA (aQ (aD (aG (cT (zm (J 3) Z (za (J 3) Z (cS (aL ?_)))))))))))))))))))))
       refine zm (J 3) Z (zm (.pointer (some ⟨ib,0,none⟩)) Z ?_)
       have i114:=(q100.st1 g112 (by omega) (by omega) (by omega))
       refine cB call182 (in_n _ _ _ _ _ _ _ _ i114) Z Z Z ?_ ?_
       ·rintro _ w124 ⟨x115,rest116,A117,n118,c119,rfl,g125,hr121,q120⟩; have z126:=g125.size; have hv123:=Dh hr121
        refine zg Z (fa47_3 (b:=⟨b8,3,none⟩) Z Z) (zg Z (cI (b:=⟨b8,6,none⟩) (i:=3) underlying44 sizeOf3 Z Z Z Z Z) ?_)
        have o129:=(o113.st1 g125 (by omega))
        refine bE (vs:=[(J x115)]) (cs':=[(J x14),(.slice none 0 0),(J x34),(J x54),(J x75),(J x95),(J x115),(.slice none 0 0)]) sizeOf3 o129 Z Z Z Z Z Z ?_
        intro w130 hz131 g132 o133
        refine aM (inB.n (aQ (aL (zg Z (bI (r:=4) Z Z Z) (zm (J 4) Z (cS (Dd (cT (zg Z (bL (r:=false) Z Z (by decide)) (cS (aD (aF Z (aC (aS (aS (Bo (aQ (cT (zm (.pointer (some ⟨ib,0,none⟩)) Z ?_)))))))))))))))))))
        have i134:=(q120.st1 g132 (by omega) (by omega) (by omega))
        refine cB call182 (in_n _ _ _ _ _ _ _ _ i134) Z Z Z ?_ ?_
        ·rintro _ w144 ⟨x135,rest136,A137,n138,c139,rfl,g145,hr141,q140⟩; have z146:=g145.size; have hv143:=Dh hr141
         refine zm (.pointer (some ⟨ib,0,none⟩)) Z (zg Z (Ex.mkf (v:=(.func (.func 259) #[(.pointer (some ⟨ib,0,none⟩))] #[])) Z) ?_)
         refine cB call258 (many_objI _ _ _ _ _ _ _ _ q140 x135 (by omega) 256 (by omega)) Z Z Z ?_ ?_
         ·rintro _ w163 ⟨l149,lr150,rest151,A152,c153,A154,n155,c156,rfl,g164,hmo157,hr158,hl159,ow160,oo161,q162⟩; have z165:=g164.size
          refine zg Z (fa47_1 (b:=⟨b8,1,none⟩) Z Z) ?_
          have o168:=((o133.st1 g145 (by omega)).st1 g164 (by omega))
          refine bE (vs:=[(.slice A152 x135.toNat c153)]) (cs':=[(J x14),(.slice A152 x135.toNat c153),(J x34),(J x54),(J x75),(J x95),(J x115),(.slice none 0 0)]) sizeOf43 o168 Z Z Z Z Z Z ?_
          intro w169 hz170 g171 o172
          refine cS (cT (zg Z (fa47_0 (b:=⟨b8,0,none⟩) Z Z) (zl (J x14) Bw o172 Z ?_)))
          have o173:=(ow160.st1 g171 (Ow.ne_or ow160 (by omega)))
          have rdo174:=o173.rd
          have o175:=(oo161.stX oo161 g171 (by omega))
          have hln2:x135.toNat = lr150.length:=hl159.symm
          have hosm:=rdL_all (p:=fun o:Eng.Obj=>o.words.length ≤ 32∧o.links.length ≤ 16∧0 ≤ o.blk.at_∧o.blk.at_ ≤ 2147483647) (fun _ _ _ h=>rdObj_some h) hr158
          have hat:=o175.at_ge (fun o ho=>(hosm o ho).2.2.1)
          refine aU call217 (all_ _ x14) Z Z Z ?_
          rintro _ w181 (⟨b176,rfl,g182,hb177,ob178,hw179⟩ | ⟨rfl,g184,hw180⟩)
          ·have z183:=g182.size
           refine zm (.tuple #[(.slice (some ⟨b176,0,none⟩) 1 1),(J 0)]) Z (zx (.slice (some ⟨b176,0,none⟩) 1 1) Z (zx (J 0) Z (za (.slice (some ⟨b176,0,none⟩) 1 1) Z (za (J 0) Z (cS (cT (zm (J 0) Z (zg Z (bP (r:=true) Z Z (by decide)) (aU call184 (is_t _) Z Z Z ?_)))))))))
           rintro _ _ ⟨rfl,rfl⟩
           refine cS (cT (zg Z (fa47_0 (b:=⟨b8,0,none⟩) Z Z) ?_))
           have o186:=(o172.st0 g182)
           refine zl (J x14) Bw o186 Z (zm (.slice (some ⟨b176,0,none⟩) 1 1) Z (zg Z (fa47_1 (b:=⟨b8,1,none⟩) Z Z) (zl (.slice A152 x135.toNat c153) lo43 o186 Z ?_)))
           have r187:=(rdo174.st0 g182)
           have hwin:=hw179
           refine aU call260 (left7_ _ x14 _ _ _ _ _ _ (by have:=Bh hwin; omega) ob178 r187 hln2 (by omega) hat (by omega)) Z Z Z ?_
           rintro _ w196 ⟨ou188,A189,n190,c191,rfl,g197,hn192,hou193,hln194,ow195⟩
           have z198:=g197.size
           refine zg Z (fa47_4 (b:=⟨b8,7,none⟩) Z Z) ?_
           have o199:=(o186.st1 g197 (by omega))
           refine bE (vs:=[(.slice A189 n190 c191)]) (cs':=[(J x14),(.slice A152 x135.toNat c153),(J x34),(J x54),(J x75),(J x95),(J x115),(.slice A189 n190 c191)]) sizeOf45 o199 Z Z Z Z Z Z ?_
           intro w200 hz201 g202 o203
           refine cS (cT (zg Z (bW Z (Aj (cs:=[(J x14),(.slice A152 x135.toNat c153),(J x34),(J x54),(J x75),(J x95),(J x115),(.slice A189 n190 c191)]) wh47 o203.cl)) ?_))
           have o204:=(((o173.st0 g182).st1 g197 (Ow.ne_or o173 (by omega))).st1 g202 (Ow.ne_or o173 (by omega)))
           have o205:=(((o175.st0 g182).stX o175 g197 (by omega)).stX o175 g202 (by omega))
           have w206:=(ow195.st1 g202 (Wr.ne_or ow195 (by omega)))
           have hbl:=o205.blk_ge
           have H207:HeapO w200 (w144.heap.size) ⟨x14,⟨A152,x135.toNat,c153⟩,x34,x54,x75,x95,x115,⟨A189,n190,c191⟩⟩ lr150 ⟨x14,l149,x34,x54,x75,x95,x115,Dq (Af x14) (l149.map Obj.blk) [⟨0,x14⟩]⟩:=⟨rfl,rfl,rfl,hln2,by have:=hmo157; dsimp only; omega,o204.weak (by omega),o205.weak (by omega),fun o ho=>⟨(hosm o ho).1,(hosm o ho).2.1⟩,by dsimp only; rw [← hbl,← hou193]; exact hn192,by dsimp only; omega,by dsimp only; rw [← hbl,← hou193]; exact w206.weak (by omega)⟩
           refine aU call140 (heapCheck_ _ _ ⟨x14,⟨A152,x135.toNat,c153⟩,x34,x54,x75,x95,x115,⟨A189,n190,c191⟩⟩ _ ⟨x14,l149,x34,x54,x75,x95,x115,Dq (Af x14) (l149.map Obj.blk) [⟨0,x14⟩]⟩ H207.r (Nat.le_refl _)) Z Z Z ?_
           rintro _ w211 ⟨rfl,g212⟩
           have z213:=g212.size
           refine zc (((if Dc ⟨x14,l149,x34,x54,x75,x95,x115,Dq (Af x14) (l149.map Obj.blk) [⟨0,x14⟩]⟩ then 0 else 1):Int) = (0:Int)) Z (fun r hr=>bP Z Z hr) (fun h214=>?_) (fun h214=>?_)
           ·refine aU call184 (is_t _) Z Z Z ?_
            rintro _ _ ⟨rfl,rfl⟩
            refine cS (cT ?_)
            have o215:=(o203.st0 g212)
            refine zg Z (bW Z (Aj (cs:=[(J x14),(.slice A152 x135.toNat c153),(J x34),(J x54),(J x75),(J x95),(J x115),(.slice A189 n190 c191)]) wh47 o215.cl)) ?_
            have o216:=((((((((((((((((((((o6.st0 g11).st1 g24 (by omega)).st1 g31 (by omega)).st1 g44 (by omega)).st1 g51 (by omega)).st1 g65 (by omega)).st1 g72 (by omega)).st1 g85 (by omega)).st1 g92 (by omega)).st1 g105 (by omega)).st1 g112 (by omega)).st1 g125 (by omega)).st1 g132 (by omega)).st1 g145 (by omega)).st1 g164 (by omega)).st1 g171 (by omega)).st0 g182).st1 g197 (by omega)).st1 g202 (by omega)).st0 g212)
            refine bE (vs:=[(J x14),(.slice A152 x135.toNat c153),(J x34),(J x54),(J x75),(J x95),(J x115),(.slice A189 n190 c191)]) (cs':=[(J x14),(.slice A152 x135.toNat c153),(J x34),(J x54),(J x75),(J x95),(J x115),(.slice A189 n190 c191)]) sizeOf47 o216 Z Z Z Z Z Z ?_
            intro w217 hz218 g219 o220
            refine cS (aB (finRP.r (v:=(.agg ([(J x14),(.slice A152 x135.toNat c153),(J x34),(J x54),(J x75),(J x95),(J x115),(.slice A189 n190 c191)]).toArray)) (resv1 Z (cA Z (Aj (cs:=[(J x14),(.slice A152 x135.toNat c153),(J x34),(J x54),(J x75),(J x95),(J x115),(.slice A189 n190 c191)]) wh47 o220.cl))) ?_))
            have i221:=((((((q162.st1 g171 (by omega) (by omega) (by omega)).st0 g182).st1 g197 (by omega) (by omega) (by omega)).st1 g202 (by omega) (by omega) (by omega)).st0 g212).st1 g219 (by omega) (by omega) (by omega))
            have h222:=((H207.st0 g212).stX H207 g219 (by omega))
            have hbt:=ite_eq0' h214
            exact ⟨⟨x14,l149,x34,x54,x75,x95,x115,Dq (Af x14) (l149.map Obj.blk) [⟨0,x14⟩]⟩,⟨x14,⟨A152,x135.toNat,c153⟩,x34,x54,x75,x95,x115,⟨A189,n190,c191⟩⟩,_,_,_,_,_,rfl,(Ah (Ae (Ah (Ah (Ae (Ah (Ae (Ae (Ah (Ae (Ah (Ae (Ah (Ae (Ah (Ae (Ah (Ae (Ah (Ae (Ae (An g5 _) (An g11 _)) g24) g31 (by omega)) g44) g51 (by omega)) g65) g72 (by omega)) g85) g92 (by omega)) g105) g112 (by omega)) g125) g132 (by omega)) g145) g164) g171 (by omega)) (An g182 _)) g197 (by omega)) g202 (by omega)) (An g212 _)) g219 (by omega)),by simp only [rdHeap,hr20,hr40,hr60,hr81,hr101,hr121,hr141,hr158]; rw [if_neg (by omega),if_neg (by rw [hw179]; simp),if_neg (by rw [hbt]; simp)],hbt,h222.weak (by omega),i221⟩
           ·refine cB call184 (is_f _) Z Z Z ?_ ?_
            ·intro _ _ hF; exact hF.elim
            ·rintro tv _ rfl
             refine aT (finRP.p ?_)
             have hbf:=ite_ne0' h214
             exact ⟨(Ae (Ah (Ah (Ae (Ah (Ae (Ae (Ah (Ae (Ah (Ae (Ah (Ae (Ah (Ae (Ah (Ae (Ah (Ae (Ae (An g5 _) (An g11 _)) g24) g31 (by omega)) g44) g51 (by omega)) g65) g72 (by omega)) g85) g92 (by omega)) g105) g112 (by omega)) g125) g132 (by omega)) g145) g164) g171 (by omega)) (An g182 _)) g197 (by omega)) g202 (by omega)) (An g212 _)),by simp only [rdHeap,hr20,hr40,hr60,hr81,hr101,hr121,hr141,hr158]; rw [if_neg (by omega),if_neg (by rw [hw179]; simp),if_pos hbf]⟩
          ·have z185:=g184.size
           refine zm (.tuple #[(.slice none 0 0),(J 1)]) Z (zx (.slice none 0 0) Z (zx (J 1) Z (za (.slice none 0 0) Z (za (J 1) Z (cS (cT (zm (J 1) Z (zg Z (bP (r:=false) Z Z (by decide)) ?_))))))))
           refine cB call184 (is_f _) Z Z Z ?_ ?_
           ·intro _ _ hF; exact hF.elim
           ·rintro tv _ rfl
            refine aT (finRP.p ?_)
            exact ⟨(Ae (Ah (Ae (Ae (Ah (Ae (Ah (Ae (Ah (Ae (Ah (Ae (Ah (Ae (Ah (Ae (Ae (An g5 _) (An g11 _)) g24) g31 (by omega)) g44) g51 (by omega)) g65) g72 (by omega)) g85) g92 (by omega)) g105) g112 (by omega)) g125) g132 (by omega)) g145) g164) g171 (by omega)) (An g184 _)),by simp only [rdHeap,hr20,hr40,hr60,hr81,hr101,hr121,hr141,hr158]; rw [if_neg (by omega),if_pos hw180]⟩
         ·rintro tv w166 ⟨g167,hr158⟩
          have z227:=g167.size
          refine aT (finRP.p ?_)
          rcases hr158 with hbad | hbad
          ·exact ⟨(Ae (Ae (Ah (Ae (Ah (Ae (Ah (Ae (Ah (Ae (Ah (Ae (Ah (Ae (Ae (An g5 _) (An g11 _)) g24) g31 (by omega)) g44) g51 (by omega)) g65) g72 (by omega)) g85) g92 (by omega)) g105) g112 (by omega)) g125) g132 (by omega)) g145) g167),by simp only [rdHeap,hr20,hr40,hr60,hr81,hr101,hr121,hr141]; rw [if_pos (by omega)]⟩
          ·exact ⟨(Ae (Ae (Ah (Ae (Ah (Ae (Ah (Ae (Ah (Ae (Ah (Ae (Ah (Ae (Ae (An g5 _) (An g11 _)) g24) g31 (by omega)) g44) g51 (by omega)) g65) g72 (by omega)) g85) g92 (by omega)) g105) g112 (by omega)) g125) g132 (by omega)) g145) g167),by simp only [rdHeap,hr20,hr40,hr60,hr81,hr101,hr121,hr141,hbad]; split <;> rfl⟩
        ·rintro tv w147 ⟨g148,hr141⟩
         have z228:=g148.size
         refine aT (finRP.p ?_)
         exact ⟨(Ae (Ah (Ae (Ah (Ae (Ah (Ae (Ah (Ae (Ah (Ae (Ah (Ae (Ae (An g5 _) (An g11 _)) g24) g31 (by omega)) g44) g51 (by omega)) g65) g72 (by omega)) g85) g92 (by omega)) g105) g112 (by omega)) g125) g132 (by omega)) g148),by simp only [rdHeap,hr20,hr40,hr60,hr81,hr101,hr121,hr141]⟩
       ·rintro tv w127 ⟨g128,hr121⟩
        have z229:=g128.size
        refine inB.p (aT (aT (inB.p (aT (finRP.p ?_)))))
        exact ⟨(Ae (Ah (Ae (Ah (Ae (Ah (Ae (Ah (Ae (Ah (Ae (Ae (An g5 _) (An g11 _)) g24) g31 (by omega)) g44) g51 (by omega)) g65) g72 (by omega)) g85) g92 (by omega)) g105) g112 (by omega)) g128),by simp only [rdHeap,hr20,hr40,hr60,hr81,hr101,hr121]⟩
      ·rintro tv w107 ⟨g108,hr101⟩
       have z230:=g108.size
       refine inB.p (aT (aT (inB.p (aT (finRP.p ?_)))))
       exact ⟨(Ae (Ah (Ae (Ah (Ae (Ah (Ae (Ah (Ae (Ae (An g5 _) (An g11 _)) g24) g31 (by omega)) g44) g51 (by omega)) g65) g72 (by omega)) g85) g92 (by omega)) g108),by simp only [rdHeap,hr20,hr40,hr60,hr81,hr101]⟩
     ·rintro tv w87 ⟨g88,hr81⟩
      have z231:=g88.size
      refine inB.p (aT (aT (inB.p (aT (finRP.p ?_)))))
      exact ⟨(Ae (Ah (Ae (Ah (Ae (Ah (Ae (Ae (An g5 _) (An g11 _)) g24) g31 (by omega)) g44) g51 (by omega)) g65) g72 (by omega)) g88),by simp only [rdHeap,hr20,hr40,hr60,hr81]⟩
    ·rintro tv w67 ⟨g68,hr60⟩
     have z232:=g68.size
     refine inB.p (aT (aT (inB.p (aT (finRP.p ?_)))))
     exact ⟨(Ae (Ah (Ae (Ah (Ae (Ae (An g5 _) (An g11 _)) g24) g31 (by omega)) g44) g51 (by omega)) g68),by simp only [rdHeap,hr20,hr40,hr60]⟩
   ·rintro tv w46 ⟨g47,hr40⟩
    have z233:=g47.size
    refine aT (finRP.p ?_)
    exact ⟨(Ae (Ah (Ae (Ae (An g5 _) (An g11 _)) g24) g31 (by omega)) g47),by simp only [rdHeap,hr20,hr40]⟩
  ·rintro tv w26 ⟨g27,hr20⟩
   have z234:=g27.size
   refine aT (finRP.p ?_)
   exact ⟨(Ae (Ae (An g5 _) (An g11 _)) g27),by simp only [rdHeap,hr20]⟩
end Go.Proofs.YtfokljnhllflbaaGreat
namespace Go.Proofs.YtfokljnhllflbaaGreat
open Go Go.Eng Go.RowKit Go.Proofs.Tryz
set_option maxHeartbeats 400000 in
set_option maxRecDepth 20000 in
theorem new_ (w:World) (A:Option Addr) (n c:Nat):Ret prog 237 [(.slice A n c)] w (fun v w' => ∃ b:Nat,v = .pointer (some ⟨b,0,none⟩)∧w.grownBy w' none∧w.heap.size ≤ b∧Ob w' b 256 [.slice A n c]):=by
  refine aP func237 Z Z Z ?_
  refine cT (za (.pointer none) Z (cS (cT (zm (.slice A n c) Z (bG (cs:=[(.slice none 0 0)]) zeroValue256 Z Z Z ?_)))))
  intro w1 b2 hb3 hz4 g5 o6
  refine bE (vs:=[(.slice A n c)]) (cs':=[(.slice A n c)]) sizeOf256 o6 Z Z Z Z Z Z ?_
  intro w7 hz8 g9 o10
  refine cS (cT (za (.pointer (some ⟨b2,0,none⟩)) Z (cS (aB (aO (v:=(.pointer (some ⟨b2,0,none⟩))) (Ba Z Z) ?_)))))
  exact ⟨_,rfl,(Bb (g5) g9 (by omega)),by omega,o10⟩
set_option maxHeartbeats 400000 in
set_option maxRecDepth 20000 in
theorem wHeapIdle (w:World) (p0 p1 p2:Nat):CallsD prog 257 [(.pointer (some ⟨p0,0,none⟩)),(.pointer (some ⟨p1,0,none⟩)),(.pointer (some ⟨p2,0,none⟩))].toArray .returning w (fun e u' w'=>(∃ v,e = .returned v∧v = .tuple #[]∧w.grownBy w' none)∧u' = .returning):=by
  refine CallsD.idle func257 Z Z Z Z Z Z ?_
  refine aD ?_
  refine aL ?_
  refine aN Z Z Z (aX (v:=.nilIface) Z) ?_
  refine aN Z Z Z (Ex.neN Z Z underlying20) ?_
  refine aM ?_
  refine aQ ?_
  refine aF Z ?_
  refine aA ?_
  refine finQ.n (v:=(.tuple #[])) (res0 Z) ?_
  exact ⟨Z,(Bs _ _)⟩
set_option maxHeartbeats 400000 in
set_option maxRecDepth 20000 in
theorem wHeapRec (w:World) (p0 p1 p2:Nat) (tv:TypeId × Value) (c0 c1 c2 c3 c4 c5 c6 c7 e0:Value) (h0:Ob w p0 47 zHeap) (h1:Ob w p1 47 [c0,c1,c2,c3,c4,c5,c6,c7]) (h2:Ob w p2 53 [e0]) (h01:p0 ≠ p1) (h02:p0 ≠ p2) (h12:p1 ≠ p2):CallsD prog 257 [(.pointer (some ⟨p0,0,none⟩)),(.pointer (some ⟨p1,0,none⟩)),(.pointer (some ⟨p2,0,none⟩))].toArray (.panicking [{ v:=.iface tv.1 tv.2,recovered:=false }]) w (fun e u' w'=>(∃ v,e = .returned v∧v = .tuple #[]∧(∀ w0:World,w0.grownBy w none∧w0.heap.size ≤ p1∧w0.heap.size ≤ p2 → w0.grownBy w' none)∧Ob w' p1 47 zHeap∧Ob w' p2 53 [.int .i64 60])∧u' = .panicking [{ v:=.iface tv.1 tv.2,recovered:=true }]):=by
  refine CallsD.rec func257 Z Z Z Z Z Z ?_
  refine aD ?_
  refine aL ?_
  refine aN Z Z Z (aX (v:=(.iface tv.1 tv.2)) Z) ?_
  refine aN Z Z Z (Ex.neI underlying20 Z Z) ?_
  refine aM ?_
  refine aQ ?_
  refine aE Z ?_
  refine aL ?_
  refine aN Z Z Z (bW Z (Aj (cs:=zHeap) wh47 h0.cl)) ?_
  refine bE (vs:=zHeap) (cs':=zHeap) sizeOf47 h1 Z Z Z Z Z Z ?_
  intro w1 hz2 g3 o4
  have o5:=(h2.st1 g3 (by omega))
  refine bE (vs:=[(J 60)]) (cs':=[(J 60)]) sizeOf53 o5 Z Z Z Z Z Z ?_
  intro w6 hz7 g8 o9
  refine aM ?_
  refine finQ.n (v:=(.tuple #[])) (res0 Z) ?_
  have o10:=(o4.st1 g8 (by omega))
  have o11:=((h0.st1 g3 (by omega)).st1 g8 (by omega))
  exact ⟨Z,fun w0 g0=>Bb (Bb g0.1 g3 (by omega)) g8 (by omega),o10,o9⟩
set_option maxHeartbeats 1000000 in
set_option maxRecDepth 20000 in
theorem wholeHeap (w:World) (B n c:Nat) (bs:List UInt8) (A:Option Addr) (hr:Rd w B 1 A (Df bs)) (hn:n = bs.length) (hc:n ≤ c) (hm:n ≤ 140737488351232) (hB:B ≤ w.heap.size):Ret prog 218 [(.slice A n c),(.func (.func 219) #[] #[])] w (fun v w'=>(∃ (h:Heap) (rh:RHeap) (ros:List RObj),v = .tuple #[.agg rh.cells.toArray,.int .i64 0]∧w.grownBy w' none∧getHeap bs = some h∧Dc h = true∧HeapO w' w.heap.size rh ros h) ∨ (v = .tuple #[.agg (zHeap).toArray,.int .i64 60]∧w.grownBy w' none∧getHeap bs = none)):=by
  refine Ret.bodyD func218 Z Z Z ?_
  refine cT (bG (cs:=[(J 0),(.slice none 0 0),(J 0),(J 0),(J 0),(J 0),(J 0),(.slice none 0 0)]) zeroValue47 Z Z Z ?_)
  intro w1 b2 hb3 hz4 g5 o6
  refine bG (cs:=[(J 0)]) zeroValue53 Z Z Z ?_
  intro w7 b8 hb9 hz10 g11 o12
  refine cS (cT (bG (cs:=[(J 0),(.slice none 0 0),(J 0),(J 0),(J 0),(J 0),(J 0),(.slice none 0 0)]) zeroValue47 Z Z Z ?_))
  intro w13 b14 hb15 hz16 g17 o18
  refine cS (cT (zg Z (Ex.mkf (v:=(.func (.func 257) #[] #[(.pointer (some ⟨b14,0,none⟩)),(.pointer (some ⟨b2,0,none⟩)),(.pointer (some ⟨b8,0,none⟩))])) Z) (RL.dfr (caps := #[(.pointer (some ⟨b14,0,none⟩)),(.pointer (some ⟨b2,0,none⟩)),(.pointer (some ⟨b8,0,none⟩))]) Z Z Z (cS (cT (zm (.slice A n c) Z (aU call237 (new_ _ A n c) Z Z Z ?_)))))))
  rintro _ w22 ⟨b19,rfl,g23,hb20,ob21⟩
  have z24:=g23.size
  refine zg Z (bY (cs:=[(.pointer (some ⟨b19,0,none⟩))]) bd202 Z) ?_
  have hltr:=ob21.lt
  refine bH (cs:=[(.pointer (some ⟨b19,0,none⟩))]) Z Z Z ?_
  intro w25 b26 hb27 hz28 g29 o30
  refine za (.pointer (some ⟨b26,0,none⟩)) Z ?_
  have o31:=(ob21.st0 g29)
  have r32:=(((((hr.st0 g5).st0 g11).st0 g17).st0 g23).st0 g29)
  have q33:In w25 B b26 b19 bs A n c:=⟨⟨o31,hn,hc,hm,r32,by omega⟩,o30,by omega,by omega⟩
  refine cS (cT (zm (.func (.func 219) #[] #[]) Z (zm (.pointer (some ⟨b26,0,none⟩)) Z ?_)))
  refine cC call219 Z (in_heap _ _ _ _ _ _ _ _ q33) Z Z Z ?_ ?_
  ·rintro _ w45 ⟨h34,rh35,ros36,rest37,A38,n39,c40,rfl,g46,hr41,hbt42,H43,q44⟩; have z47:=g46.size
   have o50:=(((((o6.st0 g11).st0 g17).st0 g23).st0 g29).st1 g46 (by omega))
   refine bE (vs:=rh35.cells) (cs':=rh35.cells) sizeOf47 o50 Z Z Z Z Z Z ?_
   intro w51 hz52 g53 o54
   refine cS (cT (zm (.pointer (some ⟨b26,0,none⟩)) Z (zg Z (bX Z) (zg Z (fa202_0 (b:=⟨b26,0,none⟩) Z Z) ?_))))
   have i55:=(q44.st1 g53 (by omega) (by omega) (by omega))
   refine zl (.pointer (some ⟨b19,0,none⟩)) lo200 i55.inb Z (aU call238 (left_ _ _ _ _ _ _ _ i55.rdr) Z Z Z ?_)
   rintro _ _ ⟨rfl,rfl⟩
   refine zc ((((rest37.length:Nat):Int):Int) = (0:Int)) Z (fun r hr=>bP Z Z hr) (fun h56=>?_) (fun h56=>?_)
   ·refine aU call184 (is_t _) Z Z Z ?_
    rintro _ _ ⟨rfl,rfl⟩
    refine cS (cT (zg Z (bW Z (Aj (cs:=rh35.cells) wh47 o54.cl)) (bE (vs:=rh35.cells) (cs':=rh35.cells) sizeOf47 o54 Z Z Z Z Z Z ?_)))
    intro w57 hz58 g59 o60
    have o61:=((((((o12.st0 g17).st0 g23).st0 g29).st1 g46 (by omega)).st1 g53 (by omega)).st1 g59 (by omega))
    refine bE (vs:=[(J 0)]) (cs':=[(J 0)]) sizeOf53 o61 Z Z Z Z Z Z ?_
    intro w62 hz63 g65 o66
    refine cS (aB ?_)
    intro a ha
    refine finD.q (caps:=[(.pointer (some ⟨b14,0,none⟩)),(.pointer (some ⟨b2,0,none⟩)),(.pointer (some ⟨b8,0,none⟩))]) Z call257 (wHeapIdle _ b14 b2 b8) ?_ a ha
    rintro _ w67 ⟨rfl,g68⟩
    have z69:=g68.size
    have o70:=((o60.st1 g65 (by omega)).st0 g68)
    have o71:=(o66.st0 g68)
    have h72:=((((H43.stX H43 g53 (by omega)).stX H43 g59 (by omega)).stX H43 g65 (by omega)).st0 g68)
    have hnil:=List.eq_nil_of_length_eq_zero (by have:=h56; omega:rest37.length = 0)
    exact ⟨_,Ch Z (cA Z (Aj (cs:=rh35.cells) wh47 o70.cl)) (cA Z (Ax lo53 (Ob.cell (v:=(J 0)) o71 Z))),.inl ⟨h34,rh35,ros36,rfl,(Ac (Bb (Bb (Bb (Bb (Ac (Ac (Ac (Ac (g5) g11) g17) g23) g29) g46 (by omega)) g53 (by omega)) g59 (by omega)) g65 (by omega)) g68),by unfold getHeap; rw [hr41,hnil],hbt42,h72.weak (by omega)⟩⟩
   ·refine cB call184 (is_f _) Z Z Z ?_ ?_
    ·intro _ _ hF; exact hF.elim
    ·rintro tv _ rfl
     refine aT ?_
     have o79:=((((o18.st0 g23).st0 g29).st1 g46 (by omega)).st1 g53 (by omega))
     have o80:=(((((o12.st0 g17).st0 g23).st0 g29).st1 g46 (by omega)).st1 g53 (by omega))
     refine finD.p (caps:=[(.pointer (some ⟨b14,0,none⟩)),(.pointer (some ⟨b2,0,none⟩)),(.pointer (some ⟨b8,0,none⟩))]) Z call257 (wHeapRec _ b14 b2 b8 tv (J rh35.order) (.slice rh35.objs.a rh35.objs.n rh35.objs.c) (J rh35.next) (J rh35.t0) (J rh35.t1) (J rh35.t2) (J rh35.t3) (.slice rh35.free.a rh35.free.n rh35.free.c) (J 0) o79 o54 o80 (by omega) (by omega) (by omega)) ?_
     rintro _ w75 ⟨rfl,gg76,o77,o78⟩
     exact ⟨_,Ch rfl (cA rfl (Aj (cs:=zHeap) wh47 o77.cl)) (cA rfl (Ax lo53 (Ob.cell (v:=(J 60)) o78 rfl))),.inr ⟨rfl,gg76 _ ⟨(Bb (Bb (Ac (Ac (Ac (Ac (g5) g11) g17) g23) g29) g46 (by omega)) g53 (by omega)),by omega,by omega⟩,by unfold getHeap; rw [hr41]; cases rest37 with | nil=>exact absurd rfl h56 | cons _ _=>rfl⟩⟩
  ·rintro tv w48 ⟨g49,hr41⟩
   have z81:=g49.size
   refine aT ?_
   have o86:=(((o18.st0 g23).st0 g29).st1 g49 (by omega))
   have o87:=(((((o6.st0 g11).st0 g17).st0 g23).st0 g29).st1 g49 (by omega))
   have o88:=((((o12.st0 g17).st0 g23).st0 g29).st1 g49 (by omega))
   refine finD.p (caps:=[(.pointer (some ⟨b14,0,none⟩)),(.pointer (some ⟨b2,0,none⟩)),(.pointer (some ⟨b8,0,none⟩))]) Z call257 (wHeapRec _ b14 b2 b8 tv (J 0) (.slice none 0 0) (J 0) (J 0) (J 0) (J 0) (J 0) (.slice none 0 0) (J 0) o86 o87 o88 (by omega) (by omega) (by omega)) ?_
   rintro _ w82 ⟨rfl,gg83,o84,o85⟩
   exact ⟨_,Ch Z (cA Z (Aj (cs:=zHeap) wh47 o84.cl)) (cA Z (Ax lo53 (Ob.cell (v:=(J 60)) o85 Z))),.inr ⟨Z,gg83 _ ⟨(Bb (Ac (Ac (Ac (Ac (g5) g11) g17) g23) g29) g49 (by omega)),by omega,by omega⟩,by unfold getHeap; rw [hr41]⟩⟩
set_option maxHeartbeats 400000 in
set_option maxRecDepth 20000 in
theorem getHeap_ (w:World) (B n c:Nat) (bs:List UInt8) (A:Option Addr) (hr:Rd w B 1 A (Df bs)) (hn:n = bs.length) (hc:n ≤ c) (hm:n ≤ 140737488351232) (hB:B ≤ w.heap.size):Ret prog 148 [(.slice A n c)] w (fun v w'=>(∃ (h:Heap) (rh:RHeap) (ros:List RObj),v = .tuple #[.agg rh.cells.toArray,.int .i64 0]∧w.grownBy w' none∧getHeap bs = some h∧Dc h = true∧HeapO w' w.heap.size rh ros h) ∨ (v = .tuple #[.agg (zHeap).toArray,.int .i64 60]∧w.grownBy w' none∧getHeap bs = none)):=by
  refine aP func148 Z Z Z ?_
  refine cT (bG (cs:=[(J 0),(.slice none 0 0),(J 0),(J 0),(J 0),(J 0),(J 0),(.slice none 0 0)]) zeroValue47 Z Z Z ?_)
  intro w1 b2 hb3 hz4 g5 o6
  refine za (J 0) Z (cS (cT (zm (.slice A n c) Z ?_)))
  have r7:=(hr.st0 g5)
  refine aU call218 (wholeHeap _ _ _ _ _ _ r7 (by omega) (by omega) (by omega) (by omega)) Z Z Z ?_
  rintro _ w15 (⟨h8,rh9,ros10,rfl,g16,hget11,hbt12,H13⟩ | ⟨rfl,g18,hget14⟩)
  ·have z17:=g16.size
   refine zx (.agg (rh9.cells).toArray) Z (zx (J 0) Z ?_)
   have o20:=(o6.st0 g16)
   refine bE (vs:=rh9.cells) (cs':=rh9.cells) sizeOf47 o20 Z Z Z Z Z Z ?_
   intro w21 hz22 g23 o24
   refine za (J 0) Z (cS (aB (aO (v:=(.tuple #[(.agg (rh9.cells).toArray),(J 0)])) (Ch Z (cA Z (Aj (cs:=rh9.cells) wh47 o24.cl)) (bZ Z)) ?_)))
   have h25:=(H13.stX H13 g23 (by omega))
   exact .inl ⟨h8,rh9,ros10,rfl,(Bb (Ac (g5) g16) g23 (by omega)),hget11,hbt12,h25.weak (by omega)⟩
  ·have z19:=g18.size
   refine zx (.agg (zHeap).toArray) Z (zx (J 60) Z ?_)
   have o26:=(o6.st0 g18)
   refine bE (vs:=zHeap) (cs':=zHeap) sizeOf47 o26 Z Z Z Z Z Z ?_
   intro w27 hz28 g29 o30
   refine za (J 60) Z (cS (aB (aO (v:=(.tuple #[(.agg (zHeap).toArray),(J 60)])) (Ch Z (cA Z (Aj (cs:=zHeap) wh47 o30.cl)) (bZ Z)) ?_)))
   exact .inr ⟨Z,(Bb (Ac (g5) g18) g29 (by omega)),hget14⟩
set_option maxHeartbeats 400000 in
set_option maxRecDepth 20000 in
theorem got_str (w:World) (x:ByteArray) (e:Int):RP prog 179 [(.string x),(J e)] w (fun v w'=>v = .string x∧w = w'∧e = 0) (fun w'=>w = w'∧e ≠ 0):=by
  refine RP.body func179 Z Z Z ?_
  refine cT (za (.string (⟨#[]⟩)) Z (cS (aD (cT (zm (J e) Z ?_)))))
  refine zc ((e:Int) ≠ (0:Int)) Z (fun r hr=>bQ Z Z hr) (fun h1=>?_) (fun h1=>?_)
  ·refine cS (aE rfl (aL (zg rfl (bY (cs:=[]) bd252 rfl) (zg rfl (Ex.mki (v:=(.agg ([]).toArray)) underlying252 (by intro _ h; cases h) rfl) (RL.pan (tv:=(252,(.agg ([]).toArray))) rfl rfl ?_)))))
   ·refine aT (finRP.p ?_)
    exact ⟨Z,by omega⟩
  ·refine cS (aF Z (aA (aQ (cT (zm (.string x) Z (za (.string x) Z (cS (aB (finRP.r (v:=(.string x)) (Ba Z Z) ?_)))))))))
   exact ⟨Z,rfl,by omega⟩
set_option maxHeartbeats 400000 in
set_option maxRecDepth 20000 in
theorem got_heap (w:World) (x:RHeap) (e:Int):RP prog 178 [(.agg (x.cells).toArray),(J e)] w (fun v w'=>v = .agg x.cells.toArray∧w.grownBy w' none∧e = 0) (fun w'=>w.grownBy w' none∧e ≠ 0):=by
  refine RP.body func178 Z Z Z ?_
  refine cT (bH (cs:=x.cells) Z Z Z ?_)
  intro w1 b2 hb3 hz4 g5 o6
  refine bG (cs:=[(J 0),(.slice none 0 0),(J 0),(J 0),(J 0),(J 0),(J 0),(.slice none 0 0)]) zeroValue47 Z Z Z ?_
  intro w7 b8 hb9 hz10 g11 o12
  refine cS (aD (cT (zm (J e) Z ?_)))
  refine zc ((e:Int) ≠ (0:Int)) Z (fun r hr=>bQ Z Z hr) (fun h13=>?_) (fun h13=>?_)
  ·refine cS (aE rfl (aL (zg rfl (bY (cs:=[]) bd252 rfl) (zg rfl (Ex.mki (v:=(.agg ([]).toArray)) underlying252 (by intro _ h; cases h) rfl) (RL.pan (tv:=(252,(.agg ([]).toArray))) rfl rfl ?_)))))
   ·refine aT (finRP.p ?_)
    exact ⟨(Ac (g5) g11),by omega⟩
  ·refine cS (aF Z (aA (aQ (cT ?_))))
   have o14:=(o6.st0 g11)
   refine zg Z (bW Z (Aj (cs:=x.cells) wh47 o14.cl)) (bE (vs:=x.cells) (cs':=x.cells) sizeOf47 o12 Z Z Z Z Z Z ?_)
   intro w15 hz16 g17 o18
   refine cS (aB (finRP.r (v:=(.agg (x.cells).toArray)) (resv1 Z (cA Z (Aj (cs:=x.cells) wh47 o18.cl))) ?_))
   exact ⟨Z,(Bb (Ac (g5) g11) g17 (by omega)),by omega⟩
theorem count_ (w:World) (B rb n c:Nat) (bs:List UInt8) (A:Option Addr) (hq:Rdr w B rb bs A n c):Ret prog 239 [(.pointer (some ⟨rb,0,none⟩))] w (fun v w'=>(∃ (x:Int) (rest:List UInt8),v = .tuple #[.int .i64 x,.int .i64 0]∧w.grownBy w' none∧rdN bs = some (x,rest)) ∨ (∃ e:Int,v = .tuple #[.int .i64 0,.int .i64 e]∧w.grownBy w' none∧e ≠ 0∧rdN bs = none)):=by
  cases h:rdN bs with
  | none=>exact (count_no w B rb n c bs A hq h).mono fun v w' ⟨e,h1,h2,h3⟩=>.inr ⟨e,h1,h2,h3,rfl⟩
  | some xr=>obtain ⟨x,rest⟩:=xr; exact (count_ok w B rb n c bs A hq x rest h).mono fun v w' ⟨h1,h2⟩=>.inl ⟨x,rest,h1,h2,rfl⟩
set_option maxHeartbeats 400000 in
set_option maxRecDepth 20000 in
theorem text_ (w : World) (B rb n c : Nat) (bs : List UInt8) (A : Option Addr) (hq : Rdr w B rb bs A n c) : Ret prog 180 [(.pointer (some ⟨rb, 0, none⟩))] w (fun v w' => (∃ (t rest : List UInt8) (A' : Option Addr) (n' c' : Nat), v = .tuple #[.string (tx t), .int .i64 0] ∧ w.grownBy w' (some rb) ∧ rdT bs = some (t, rest) ∧ Rdr w' B rb rest A' n' c') ∨ (∃ (x : ByteArray) (e : Int), v = .tuple #[.string x, .int .i64 e] ∧ w.grownBy w' (some rb) ∧ e ≠ 0 ∧ rdT bs = none)) := by
  have hn:=hq.len
  have hc:=hq.cap
  have hm:=hq.max
  have hlt:=hq.lt
  have hsr:=hq.ob.lt
  refine aP func180 Z Z Z ?_
  refine cT (za (.string (⟨#[]⟩)) Z (za (J 0) Z (cS (cT (zm (.pointer (some ⟨rb,0,none⟩)) Z (aU call239 (count_ _ _ _ _ _ _ _ hq) Z Z Z ?_))))))
  rintro _ w7 (⟨x1,rest2,rfl,g8,hr3⟩ | ⟨e4,rfl,g10,he5,hr6⟩)
  ·have z9:=g8.size
   refine zm (.tuple #[(J x1),(J 0)]) Z (zx (J x1) Z (zx (J 0) Z (za (J x1) Z (za (J 0) Z (cS (aD (aG (cT (zm (J 0) Z (zg Z (bQ (r:=false) Z Z (by decide)) (za bF Z (cS (aF Z (cT (zm (J x1) Z ?_)))))))))))))))
   refine zc ((65536:Int) < (x1:Int)) Z (fun r hr=>bN Z Z hr) (fun h12=>?_) (fun h12=>?_)
   ·refine za bT Z (cS (aE Z (cT (za (.string (⟨#[]⟩)) Z (za (J 11) Z (cS (aB (inB.r (aR (aO (v:=(.tuple #[(.string (⟨#[]⟩)),(J 11)])) (res2 Z Z Z) ?_))))))))))
    have hrs:=Dh hr3
    exact .inr ⟨_,_,rfl,(An g8 _),by decide,by unfold rdT; rw [hr3]; simp only [hrs.2.1]; rw [if_pos (by omega)]⟩
   ·refine za bF Z (cS (aF Z (cT (zm (.pointer (some ⟨rb,0,none⟩)) Z ?_))))
    have r13:=(hq.st0 g8)
    refine aU call238 (left_ _ _ _ _ _ _ _ r13) Z Z Z ?_
    rintro _ _ ⟨rfl,rfl⟩
    refine zg Z (bJ (r:=((bs.length:Nat):Int) - 4) Z Z (Dl (by omega) (by omega))) (zm (J x1) Z ?_)
    refine zc ((((bs.length:Nat):Int) - 4:Int) < (x1:Int)) Z (fun r hr=>bL Z Z hr) (fun h14=>?_) (fun h14=>?_)
    ·refine za bT Z (cS (aE Z (cT (za (.string (⟨#[]⟩)) Z (za (J 10) Z (cS (aB (inB.r (aR (aO (v:=(.tuple #[(.string (⟨#[]⟩)),(J 10)])) (res2 Z Z Z) ?_))))))))))
     have hrs:=Dh hr3
     exact .inr ⟨_,_,rfl,(An g8 _),by decide,by unfold rdT; rw [hr3]; simp only [hrs.2.1]; rw [if_neg (by omega),if_pos (by have:=hrs.1; rw [List.length_drop]; omega)]⟩
    ·refine za bF Z (cS (aF Z (aA (inB.n (aQ (cT ?_))))))
     obtain ⟨hl4,hrest,hx0,hx1⟩:=Dh hr3
     obtain ⟨m,rfl⟩ : ∃ m:Nat,x1 = (m:Int):=⟨x1.toNat,by omega⟩
     have hdl:(bs.drop 4).length = bs.length - 4:=List.length_drop
     have hml:m ≤ (bs.drop 4).length:=by omega
     refine zm (.pointer (some ⟨rb,0,none⟩)) Z (zg Z (Ex.mkf (v:=(.func (.func 240) #[(.pointer (some ⟨rb,0,none⟩))] #[])) Z) (za (.func (.func 240) #[(.pointer (some ⟨rb,0,none⟩))] #[]) Z (cS (cT (zm (.func (.func 240) #[(.pointer (some ⟨rb,0,none⟩))] #[]) Z (aV call240 Z (pass_ _ _ _ _ _ _ _ r13 4 (by first | omega | (simp only [List.length_drop]; omega))) Z Z Z ?_))))))
     rintro _ w18 ⟨rfl,g19,hz17,A15,q16⟩
     have z20:=g19.size
     refine cS (cT (zm (.pointer (some ⟨rb,0,none⟩)) Z (zg Z (bX Z) (zl (.slice A15 (n - 4) (c - 4)) lo256 q16.ob Z (zm (J (m:Int)) Z (zg Z (bU (i:=m) underlying256 sizeOf5 Z Z Z (by omega)) (zg Z (Ex.b2s (bs:=bs.drop 4) underlying256 underlying5 underlying9 Z q16.row (by omega)) (za (.string (tx ((bs.drop 4).take m))) Z (cS (cT (zm (.func (.func 240) #[(.pointer (some ⟨rb,0,none⟩))] #[]) Z (zm (J (m:Int)) Z ?_))))))))))))
     refine aV call240 Z (pass_ _ _ _ _ _ _ _ q16 m (by first | omega | (simp only [List.length_drop]; omega))) Z Z Z ?_
     rintro _ w24 ⟨rfl,g25,hz23,A21,q22⟩
     have z26:=g25.size
     refine cS (cT (zm (.string (tx ((bs.drop 4).take m))) Z (za (.string (tx ((bs.drop 4).take m))) Z (za (J 0) Z (cS (aB (aO (v:=(.tuple #[(.string (tx ((bs.drop 4).take m))),(J 0)])) (res2 Z Z Z) ?_)))))))
     exact .inl ⟨_,_,_,_,_,rfl,(Ae (Ae (An g8 _) g19) g25),by unfold rdT; rw [hr3]; simp only [hrest]; rw [if_neg (by omega),if_neg (by omega),Int.toNat_natCast],q22⟩
  ·have z11:=g10.size
   refine zm (.tuple #[(J 0),(J e4)]) Z (zx (J 0) Z (zx (J e4) Z (za (J 0) Z (za (J e4) Z (cS (aD (aG (cT (zm (J e4) Z (zg Z (bQ (r:=true) Z Z (decide_eq_true he5)) (za bT Z (cS (aE Z (cT (zm (J e4) Z ?_)))))))))))))))
   refine za (.string (⟨#[]⟩)) Z (za (J e4) Z (cS (aB (inB.r (aR (aO (v:=(.tuple #[(.string (⟨#[]⟩)),(J e4)])) (res2 Z Z Z) ?_))))))
   exact .inr ⟨_,_,rfl,(An g10 _),he5,by unfold rdT; rw [hr6]⟩
end Go.Proofs.YtfokljnhllflbaaGreat
namespace Go.Proofs.YtfokljnhllflbaaGreat
open Go Go.Eng Go.RowKit Go.Proofs.Tryz
set_option maxHeartbeats 1000000 in
set_option maxRecDepth 20000 in
theorem imgCheck_ (w:World) (B:Nat) (rs:RState) (ros:List RObj) (s:State) (H:StateR w B rs ros s) (hB:B ≤ w.heap.size):Ret prog 96 [(.agg (rs.cells).toArray)] w (fun v w'=>v = .int .i64 (if Cy s then 0 else 60)∧w.grownBy w' none):=by
  have hrn:=H.rn
  have hrm:=H.rm
  refine aP func96 Z Z Z ?_
  refine cT (bH (cs:=rs.cells) Z Z Z ?_)
  intro w1 b2 hb3 hz4 g5 o6
  refine za (J 0) Z (cS (cT (zg Z (fa50_0 (b:=⟨b2,0,none⟩) Z Z) (zg Z (bW Z (Aj (cs:=[(J rs.heap.order),(.slice rs.heap.objs.a rs.heap.objs.n rs.heap.objs.c),(J rs.heap.next),(J rs.heap.t0),(J rs.heap.t1),(J rs.heap.t2),(J rs.heap.t3),(.slice rs.heap.free.a rs.heap.free.n rs.heap.free.c)]) wh47 (o6.sub 0 8))) ?_))))
  have h7:=(H.st0 g5)
  refine aU call140 (heapCheck_ _ _ rs.heap _ _ h7.heap (by omega)) Z Z Z ?_
  rintro _ w8 ⟨rfl,g9⟩
  have z10:=g9.size
  refine zc (((if Dc s.heap then 0 else 1):Int) = (0:Int)) Z (fun r hr=>bP Z Z hr) (fun h11=>?_) (fun h11=>?_)
  ·refine za bT Z (cS (cT (za (J 0) Z (cS (aD (cT (zg Z (fa50_1 (b:=⟨b2,8,none⟩) Z Z) ?_)))))))
   have o12:=(o6.st0 g9)
   refine zl (.slice rs.rows.a rs.rows.n rs.rows.c) lo48 o12 Z (zg Z (bR underlying48 Z) (zm (J 0) Z (cS (aG ?_))))
   refine aK (fun t=>(Nat.ble 3 t && Nat.ble t 4) || Nat.beq t 6 || (Nat.ble 14 t && Nat.ble t 54)) (fun n ρ wl => ∃ (k:Nat) (ok:Bool) (last:Int),ρ 14 = (J (k:Int))∧ρ 3 = (.bool ok)∧ρ 4 = (J last)∧n = s.rows.length - k∧World.grownBy w8 wl none∧k ≤ s.rows.length∧(ok && rowsB last (s.rows.drop k)) = (true && rowsB 0 s.rows)) (s.rows.length) ?aa0 ?bb0
   case aa0=>exact ⟨0,true,0,rfl,rfl,rfl,rfl,Bs _ _,Nat.zero_le _,rfl⟩
   case bb0 =>
    rintro n15 ρ0 w13 ho16 ⟨k,ok,last,hs0_14,hs0_3,hs0_4,hn0,g14,hk,hok⟩
    obtain ⟨j0,rfl⟩:=ho16.shape3 hs0_14 hs0_3 hs0_4
    clear ho16 hs0_14 hs0_3 hs0_4
    subst hn0
    have z17:=g14.size
    refine cT ?_
    refine zc (((k:Int):Int) < ((rs.rows.n:Nat):Int)) Z (fun r hr=>bL Z Z hr) (fun h18=>?_) (fun h18=>?_)
    ·refine cS (aD (aE Z (aA (aQ (aD (aG (cT ?_)))))))
     have h19:=((h7.st0 g9).st0 g14)
     obtain ⟨e20,he21⟩ : ∃ e,(s.rows)[k]? = some e:=⟨_,List.getElem?_eq_getElem (by omega)⟩
     obtain ⟨ad22,hA23,hB24,c25⟩:=h19.rr.at_ (rows_get he21)
     have hl26:=Eng.lt_len (rows_get he21)
     refine zg Z (bS (b:=ad22.add (k * 4)) (i:=k) underlying48 sizeOf123 (by rw [← hA23]; rfl) Z (by omega) (by omega) Z) (zg Z (bW Z (Aj (cs:=e20.cells) wh123 c25)) (bG (cs:=[(J 0),(J 0),(J 0),(J 0)]) zeroValue123 Z Z Z ?_))
     intro w27 b28 hb29 hz30 g31 o32
     refine bE (vs:=e20.cells) (cs':=e20.cells) sizeOf123 o32 Z Z Z Z Z Z ?_
     intro w33 hz34 g35 o36
     refine cS (cT ?_)
     cases ok
     ·refine aN Z Z Z (aX (v:=(.bool false)) Z) ?_
      refine zm bF Z (zo Z (zo Z (zo Z (zo Z (zF bF Z (zm bF Z (zo Z (zo Z (zo Z (zF bF Z ?_))))))))))
      refine zm bF Z (zo Z (zo Z (zo Z (zF bF Z (zm bF Z (zo Z (zo Z (zo Z (zF bF Z (zm bF Z ?_))))))))))
      refine zo Z (zo Z (zo Z (zo Z (zF bF Z (zm bF Z (zo Z (zo Z (zo Z (zo Z (zF bF Z ?_))))))))))
      refine za bF Z (cS (aL (zg Z (Dj (b:=⟨b28,0,none⟩) Z Z) (zl (J e20.client) Bw o36 Z (za (J e20.client) Z (aM (inB.n (aQ (aL (zg Z (bI (r:=(k:Int) + 1) Z Z (Dl (by omega) (by omega))) (zm (J ((k:Int) + 1)) Z (cS ?_))))))))))))
      refine ⟨(by repeat (first | exact aJ _ _ | exact aH _ _ | refine aI ?_ Z _)),_,?_,⟨k + 1,false,_,rfl,rfl,rfl,rfl,(Bb (Ac (g14) g31) g35 (by omega)),by omega,by rw [← hok,Bp he21]; simp [rowsB,h18]⟩⟩
      omega
     ·refine aN Z Z Z (aX (v:=(.bool true)) Z) ?_
      refine zm bT Z (zg Z (Dj (b:=⟨b28,0,none⟩) Z Z) (zl (J e20.client) Bw o36 Z (zm (J last) Z ?_)))
      refine zc ((last:Int) < (e20.client:Int)) Z (fun r hr=>bN Z Z hr) (fun h37=>?_) (fun h37=>?_)
      ·refine zT bT Z (zm bT Z (zg Z (Dj (b:=⟨b28,0,none⟩) Z Z) (zl (J e20.client) Bw o36 Z ?_)))
       refine zc ((e20.client:Int) ≤ (4:Int)) Z (fun r hr=>bM Z Z hr) (fun h38=>?_) (fun h38=>?_)
       ·refine zT bT Z (zm bT Z (zg Z (fa123_1 (b:=⟨b28,1,none⟩) Z Z) (zl (J e20.seq) Bw o36 Z ?_)))
        refine zc ((1:Int) ≤ (e20.seq:Int)) Z (fun r hr=>bO Z Z hr) (fun h39=>?_) (fun h39=>?_)
        ·refine zT bT Z (zm bT Z (zg Z (fa123_1 (b:=⟨b28,1,none⟩) Z Z) (zl (J e20.seq) Bw o36 Z ?_)))
         refine zc ((e20.seq:Int) ≤ (1000000:Int)) Z (fun r hr=>bM Z Z hr) (fun h40=>?_) (fun h40=>?_)
         ·refine zT bT Z (zm bT Z (zg Z (fa123_2 (b:=⟨b28,2,none⟩) Z Z) (zg Z (fa55_0 (b:=⟨b28,2,none⟩) Z Z) (zl (J e20.code) lo53 o36 Z ?_))))
          refine zc ((0:Int) ≤ (e20.code:Int)) Z (fun r hr=>bO Z Z hr) (fun h41=>?_) (fun h41=>?_)
          ·refine zT bT Z (zm bT Z (zg Z (fa123_2 (b:=⟨b28,2,none⟩) Z Z) (zg Z (fa55_0 (b:=⟨b28,2,none⟩) Z Z) (zl (J e20.code) lo53 o36 Z ?_))))
           refine zc ((e20.code:Int) ≤ (65535:Int)) Z (fun r hr=>bM Z Z hr) (fun h42=>?_) (fun h42=>?_)
           ·refine zT bT Z (za bT Z (cS (aL (zg Z (Dj (b:=⟨b28,0,none⟩) Z Z) (zl (J e20.client) Bw o36 Z (za (J e20.client) Z (aM (inB.n (aQ (aL (zg Z (bI (r:=(k:Int) + 1) Z Z (Dl (by omega) (by omega))) (zm (J ((k:Int) + 1)) Z (cS ?_)))))))))))))
            refine ⟨(by repeat (first | exact aJ _ _ | exact aH _ _ | refine aI ?_ Z _)),_,?_,⟨k + 1,true,_,rfl,rfl,rfl,rfl,(Bb (Ac (g14) g31) g35 (by omega)),by omega,by rw [← hok,Bp he21]; simp [rowsB,h18,h37,h38,h39,h40,h41,h42]⟩⟩
            omega
           ·refine zT bF Z (za bF Z (cS (aL (zg Z (Dj (b:=⟨b28,0,none⟩) Z Z) (zl (J e20.client) Bw o36 Z (za (J e20.client) Z (aM (inB.n (aQ (aL (zg Z (bI (r:=(k:Int) + 1) Z Z (Dl (by omega) (by omega))) (zm (J ((k:Int) + 1)) Z (cS ?_)))))))))))))
            refine ⟨(by repeat (first | exact aJ _ _ | exact aH _ _ | refine aI ?_ Z _)),_,?_,⟨k + 1,false,_,rfl,rfl,rfl,rfl,(Bb (Ac (g14) g31) g35 (by omega)),by omega,by rw [← hok,Bp he21]; simp [rowsB,h18,h37,h38,h39,h40,h41,h42]⟩⟩
            omega
          ·refine zT bF Z (zm bF Z (zo Z (zo Z (zo Z (zo Z (zF bF Z (za bF Z (cS (aL (zg Z (Dj (b:=⟨b28,0,none⟩) Z Z) (zl (J e20.client) Bw o36 Z ?_)))))))))))
           refine za (J e20.client) Z (aM (inB.n (aQ (aL (zg Z (bI (r:=(k:Int) + 1) Z Z (Dl (by omega) (by omega))) (zm (J ((k:Int) + 1)) Z (cS ?_)))))))
           refine ⟨(by repeat (first | exact aJ _ _ | exact aH _ _ | refine aI ?_ Z _)),_,?_,⟨k + 1,false,_,rfl,rfl,rfl,rfl,(Bb (Ac (g14) g31) g35 (by omega)),by omega,by rw [← hok,Bp he21]; simp [rowsB,h18,h37,h38,h39,h40,h41]⟩⟩
           omega
         ·refine zT bF Z (zm bF Z (zo Z (zo Z (zo Z (zo Z (zF bF Z (zm bF Z (zo Z (zo Z (zo Z ?_))))))))))
          refine zo Z (zF bF Z (za bF Z (cS (aL (zg Z (Dj (b:=⟨b28,0,none⟩) Z Z) (zl (J e20.client) Bw o36 Z (za (J e20.client) Z (aM (inB.n (aQ (aL (zg Z (bI (r:=(k:Int) + 1) Z Z (Dl (by omega) (by omega))) (zm (J ((k:Int) + 1)) Z (cS ?_))))))))))))))
          refine ⟨(by repeat (first | exact aJ _ _ | exact aH _ _ | refine aI ?_ Z _)),_,?_,⟨k + 1,false,_,rfl,rfl,rfl,rfl,(Bb (Ac (g14) g31) g35 (by omega)),by omega,by rw [← hok,Bp he21]; simp [rowsB,h18,h37,h38,h39,h40]⟩⟩
          omega
        ·refine zT bF Z (zm bF Z (zo Z (zo Z (zo Z (zF bF Z (zm bF Z (zo Z (zo Z (zo Z (zo Z ?_))))))))))
         refine zF bF Z (zm bF Z (zo Z (zo Z (zo Z (zo Z (zF bF Z (za bF Z (cS (aL (zg Z (Dj (b:=⟨b28,0,none⟩) Z Z) (zl (J e20.client) Bw o36 Z ?_)))))))))))
         refine za (J e20.client) Z (aM (inB.n (aQ (aL (zg Z (bI (r:=(k:Int) + 1) Z Z (Dl (by omega) (by omega))) (zm (J ((k:Int) + 1)) Z (cS ?_)))))))
         refine ⟨(by repeat (first | exact aJ _ _ | exact aH _ _ | refine aI ?_ Z _)),_,?_,⟨k + 1,false,_,rfl,rfl,rfl,rfl,(Bb (Ac (g14) g31) g35 (by omega)),by omega,by rw [← hok,Bp he21]; simp [rowsB,h18,h37,h38,h39]⟩⟩
         omega
       ·refine zT bF Z (zm bF Z (zo Z (zo Z (zo Z (zF bF Z (zm bF Z (zo Z (zo Z (zo Z (zF bF Z ?_))))))))))
        refine zm bF Z (zo Z (zo Z (zo Z (zo Z (zF bF Z (zm bF Z (zo Z (zo Z (zo Z (zo Z ?_))))))))))
        refine zF bF Z (za bF Z (cS (aL (zg Z (Dj (b:=⟨b28,0,none⟩) Z Z) (zl (J e20.client) Bw o36 Z (za (J e20.client) Z (aM (inB.n (aQ (aL (zg Z (bI (r:=(k:Int) + 1) Z Z (Dl (by omega) (by omega))) (zm (J ((k:Int) + 1)) Z (cS ?_)))))))))))))
        refine ⟨(by repeat (first | exact aJ _ _ | exact aH _ _ | refine aI ?_ Z _)),_,?_,⟨k + 1,false,_,rfl,rfl,rfl,rfl,(Bb (Ac (g14) g31) g35 (by omega)),by omega,by rw [← hok,Bp he21]; simp [rowsB,h18,h37,h38]⟩⟩
        omega
      ·refine zT bF Z (zm bF Z (zo Z (zo Z (zo Z (zF bF Z (zm bF Z (zo Z (zo Z (zo Z (zF bF Z ?_))))))))))
       refine zm bF Z (zo Z (zo Z (zo Z (zF bF Z (zm bF Z (zo Z (zo Z (zo Z (zo Z (zF bF Z ?_))))))))))
       refine zm bF Z (zo Z (zo Z (zo Z (zo Z (zF bF Z (za bF Z (cS (aL (zg Z (Dj (b:=⟨b28,0,none⟩) Z Z) (zl (J e20.client) Bw o36 Z (za (J e20.client) Z ?_)))))))))))
       refine aM (inB.n (aQ (aL (zg Z (bI (r:=(k:Int) + 1) Z Z (Dl (by omega) (by omega))) (zm (J ((k:Int) + 1)) Z (cS ?_))))))
       refine ⟨(by repeat (first | exact aJ _ _ | exact aH _ _ | refine aI ?_ Z _)),_,?_,⟨k + 1,false,_,rfl,rfl,rfl,rfl,(Bb (Ac (g14) g31) g35 (by omega)),by omega,by rw [← hok,Bp he21]; simp [rowsB,h18,h37]⟩⟩
       omega
    ·refine cS (aD (aF Z (aC (aS (aS (Bo (aQ (aD (cT ?_)))))))))
     cases ok
     ·refine aN Z Z Z (aX (v:=(.bool false)) Z) ?_
      refine zg Z (bC (b:=false) Z) (cS (aE Z (cT (za (J 60) Z (cS (aB (aR (aO (v:=(J 60)) (Ba Z Z) ?_))))))))
      rw [List.drop_eq_nil_of_le (by omega)] at hok
      have hst:Cy s = false:=by
        unfold Cy
        first | (rw [ite_eq0' h11,← hok]; rfl) | (rw [ite_ne0' h11]; first | rfl | exact absurd hok (by simp [rowsB]))
      exact ⟨Bi (by rw [hst]; rfl),(Ac (Ac (g5) g9) g14)⟩
     ·refine aN Z Z Z (aX (v:=(.bool true)) Z) ?_
      refine zg Z (bC (b:=true) Z) (cS (aF Z (aA (aQ (cT (za (J 0) Z (cS (aB (aO (v:=(J 0)) (Ba Z Z) ?_)))))))))
      rw [List.drop_eq_nil_of_le (by omega)] at hok
      have hst:Cy s = true:=by
        unfold Cy
        first | (rw [ite_eq0' h11,← hok]; rfl) | (rw [ite_ne0' h11]; first | rfl | exact absurd hok (by simp [rowsB]))
      exact ⟨Bi (by rw [hst]; rfl),(Ac (Ac (g5) g9) g14)⟩
  ·refine za bF Z (cS (cT (za (J 0) Z (cS (aD (cT (zg Z (fa50_1 (b:=⟨b2,8,none⟩) Z Z) ?_)))))))
   have o43:=(o6.st0 g9)
   refine zl (.slice rs.rows.a rs.rows.n rs.rows.c) lo48 o43 Z (zg Z (bR underlying48 Z) (zm (J 0) Z (cS (aG ?_))))
   refine aK (fun t=>(Nat.ble 3 t && Nat.ble t 4) || Nat.beq t 6 || (Nat.ble 14 t && Nat.ble t 54)) (fun n ρ wl => ∃ (k:Nat) (ok:Bool) (last:Int),ρ 14 = (J (k:Int))∧ρ 3 = (.bool ok)∧ρ 4 = (J last)∧n = s.rows.length - k∧World.grownBy w8 wl none∧k ≤ s.rows.length∧(ok && rowsB last (s.rows.drop k)) = (false && rowsB 0 s.rows)) (s.rows.length) ?aa0 ?bb0
   case aa0=>exact ⟨0,false,0,rfl,rfl,rfl,rfl,Bs _ _,Nat.zero_le _,rfl⟩
   case bb0 =>
    rintro n46 ρ0 w44 ho47 ⟨k,ok,last,hs0_14,hs0_3,hs0_4,hn0,g45,hk,hok⟩
    obtain ⟨j0,rfl⟩:=ho47.shape3 hs0_14 hs0_3 hs0_4
    clear ho47 hs0_14 hs0_3 hs0_4
    subst hn0
    have z48:=g45.size
    refine cT ?_
    refine zc (((k:Int):Int) < ((rs.rows.n:Nat):Int)) Z (fun r hr=>bL Z Z hr) (fun h49=>?_) (fun h49=>?_)
    ·refine cS (aD (aE Z (aA (aQ (aD (aG (cT ?_)))))))
     have h50:=((h7.st0 g9).st0 g45)
     obtain ⟨e51,he52⟩ : ∃ e,(s.rows)[k]? = some e:=⟨_,List.getElem?_eq_getElem (by omega)⟩
     obtain ⟨ad53,hA54,hB55,c56⟩:=h50.rr.at_ (rows_get he52)
     have hl57:=Eng.lt_len (rows_get he52)
     refine zg Z (bS (b:=ad53.add (k * 4)) (i:=k) underlying48 sizeOf123 (by rw [← hA54]; rfl) Z (by omega) (by omega) Z) (zg Z (bW Z (Aj (cs:=e51.cells) wh123 c56)) (bG (cs:=[(J 0),(J 0),(J 0),(J 0)]) zeroValue123 Z Z Z ?_))
     intro w58 b59 hb60 hz61 g62 o63
     refine bE (vs:=e51.cells) (cs':=e51.cells) sizeOf123 o63 Z Z Z Z Z Z ?_
     intro w65 hz66 g67 o68
     refine cS (cT ?_)
     cases ok
     ·refine aN Z Z Z (aX (v:=(.bool false)) Z) ?_
      refine zm bF Z (zo Z (zo Z (zo Z (zo Z (zF bF Z (zm bF Z (zo Z (zo Z (zo Z (zF bF Z ?_))))))))))
      refine zm bF Z (zo Z (zo Z (zo Z (zF bF Z (zm bF Z (zo Z (zo Z (zo Z (zF bF Z (zm bF Z ?_))))))))))
      refine zo Z (zo Z (zo Z (zo Z (zF bF Z (zm bF Z (zo Z (zo Z (zo Z (zo Z (zF bF Z ?_))))))))))
      refine za bF Z (cS (aL (zg Z (Dj (b:=⟨b59,0,none⟩) Z Z) (zl (J e51.client) Bw o68 Z (za (J e51.client) Z (aM (inB.n (aQ (aL (zg Z (bI (r:=(k:Int) + 1) Z Z (Dl (by omega) (by omega))) (zm (J ((k:Int) + 1)) Z (cS ?_))))))))))))
      refine ⟨(by repeat (first | exact aJ _ _ | exact aH _ _ | refine aI ?_ Z _)),_,?_,⟨k + 1,false,_,rfl,rfl,rfl,rfl,(Bb (Ac (g45) g62) g67 (by omega)),by omega,by rw [← hok,Bp he52]; simp [rowsB,h49]⟩⟩
      omega
     ·refine aN Z Z Z (aX (v:=(.bool true)) Z) ?_
      refine zm bT Z (zg Z (Dj (b:=⟨b59,0,none⟩) Z Z) (zl (J e51.client) Bw o68 Z (zm (J last) Z ?_)))
      refine zc ((last:Int) < (e51.client:Int)) Z (fun r hr=>bN Z Z hr) (fun h69=>?_) (fun h69=>?_)
      ·refine zT bT Z (zm bT Z (zg Z (Dj (b:=⟨b59,0,none⟩) Z Z) (zl (J e51.client) Bw o68 Z ?_)))
       refine zc ((e51.client:Int) ≤ (4:Int)) Z (fun r hr=>bM Z Z hr) (fun h70=>?_) (fun h70=>?_)
       ·refine zT bT Z (zm bT Z (zg Z (fa123_1 (b:=⟨b59,1,none⟩) Z Z) (zl (J e51.seq) Bw o68 Z ?_)))
        refine zc ((1:Int) ≤ (e51.seq:Int)) Z (fun r hr=>bO Z Z hr) (fun h71=>?_) (fun h71=>?_)
        ·refine zT bT Z (zm bT Z (zg Z (fa123_1 (b:=⟨b59,1,none⟩) Z Z) (zl (J e51.seq) Bw o68 Z ?_)))
         refine zc ((e51.seq:Int) ≤ (1000000:Int)) Z (fun r hr=>bM Z Z hr) (fun h72=>?_) (fun h72=>?_)
         ·refine zT bT Z (zm bT Z (zg Z (fa123_2 (b:=⟨b59,2,none⟩) Z Z) (zg Z (fa55_0 (b:=⟨b59,2,none⟩) Z Z) (zl (J e51.code) lo53 o68 Z ?_))))
          refine zc ((0:Int) ≤ (e51.code:Int)) Z (fun r hr=>bO Z Z hr) (fun h73=>?_) (fun h73=>?_)
          ·refine zT bT Z (zm bT Z (zg Z (fa123_2 (b:=⟨b59,2,none⟩) Z Z) (zg Z (fa55_0 (b:=⟨b59,2,none⟩) Z Z) (zl (J e51.code) lo53 o68 Z ?_))))
           refine zc ((e51.code:Int) ≤ (65535:Int)) Z (fun r hr=>bM Z Z hr) (fun h74=>?_) (fun h74=>?_)
           ·refine zT bT Z (za bT Z (cS (aL (zg Z (Dj (b:=⟨b59,0,none⟩) Z Z) (zl (J e51.client) Bw o68 Z (za (J e51.client) Z (aM (inB.n (aQ (aL (zg Z (bI (r:=(k:Int) + 1) Z Z (Dl (by omega) (by omega))) (zm (J ((k:Int) + 1)) Z (cS ?_)))))))))))))
            refine ⟨(by repeat (first | exact aJ _ _ | exact aH _ _ | refine aI ?_ Z _)),_,?_,⟨k + 1,true,_,rfl,rfl,rfl,rfl,(Bb (Ac (g45) g62) g67 (by omega)),by omega,by rw [← hok,Bp he52]; simp [rowsB,h49,h69,h70,h71,h72,h73,h74]⟩⟩
            omega
           ·refine zT bF Z (za bF Z (cS (aL (zg Z (Dj (b:=⟨b59,0,none⟩) Z Z) (zl (J e51.client) Bw o68 Z (za (J e51.client) Z (aM (inB.n (aQ (aL (zg Z (bI (r:=(k:Int) + 1) Z Z (Dl (by omega) (by omega))) (zm (J ((k:Int) + 1)) Z (cS ?_)))))))))))))
            refine ⟨(by repeat (first | exact aJ _ _ | exact aH _ _ | refine aI ?_ Z _)),_,?_,⟨k + 1,false,_,rfl,rfl,rfl,rfl,(Bb (Ac (g45) g62) g67 (by omega)),by omega,by rw [← hok,Bp he52]; simp [rowsB,h49,h69,h70,h71,h72,h73,h74]⟩⟩
            omega
          ·refine zT bF Z (zm bF Z (zo Z (zo Z (zo Z (zo Z (zF bF Z (za bF Z (cS (aL (zg Z (Dj (b:=⟨b59,0,none⟩) Z Z) (zl (J e51.client) Bw o68 Z ?_)))))))))))
           refine za (J e51.client) Z (aM (inB.n (aQ (aL (zg Z (bI (r:=(k:Int) + 1) Z Z (Dl (by omega) (by omega))) (zm (J ((k:Int) + 1)) Z (cS ?_)))))))
           refine ⟨(by repeat (first | exact aJ _ _ | exact aH _ _ | refine aI ?_ Z _)),_,?_,⟨k + 1,false,_,rfl,rfl,rfl,rfl,(Bb (Ac (g45) g62) g67 (by omega)),by omega,by rw [← hok,Bp he52]; simp [rowsB,h49,h69,h70,h71,h72,h73]⟩⟩
           omega
         ·refine zT bF Z (zm bF Z (zo Z (zo Z (zo Z (zo Z (zF bF Z (zm bF Z (zo Z (zo Z (zo Z ?_))))))))))
          refine zo Z (zF bF Z (za bF Z (cS (aL (zg Z (Dj (b:=⟨b59,0,none⟩) Z Z) (zl (J e51.client) Bw o68 Z (za (J e51.client) Z (aM (inB.n (aQ (aL (zg Z (bI (r:=(k:Int) + 1) Z Z (Dl (by omega) (by omega))) (zm (J ((k:Int) + 1)) Z (cS ?_))))))))))))))
          refine ⟨(by repeat (first | exact aJ _ _ | exact aH _ _ | refine aI ?_ Z _)),_,?_,⟨k + 1,false,_,rfl,rfl,rfl,rfl,(Bb (Ac (g45) g62) g67 (by omega)),by omega,by rw [← hok,Bp he52]; simp [rowsB,h49,h69,h70,h71,h72]⟩⟩
          omega
        ·refine zT bF Z (zm bF Z (zo Z (zo Z (zo Z (zF bF Z (zm bF Z (zo Z (zo Z (zo Z (zo Z ?_))))))))))
         refine zF bF Z (zm bF Z (zo Z (zo Z (zo Z (zo Z (zF bF Z (za bF Z (cS (aL (zg Z (Dj (b:=⟨b59,0,none⟩) Z Z) (zl (J e51.client) Bw o68 Z ?_)))))))))))
         refine za (J e51.client) Z (aM (inB.n (aQ (aL (zg Z (bI (r:=(k:Int) + 1) Z Z (Dl (by omega) (by omega))) (zm (J ((k:Int) + 1)) Z (cS ?_)))))))
         refine ⟨(by repeat (first | exact aJ _ _ | exact aH _ _ | refine aI ?_ Z _)),_,?_,⟨k + 1,false,_,rfl,rfl,rfl,rfl,(Bb (Ac (g45) g62) g67 (by omega)),by omega,by rw [← hok,Bp he52]; simp [rowsB,h49,h69,h70,h71]⟩⟩
         omega
       ·refine zT bF Z (zm bF Z (zo Z (zo Z (zo Z (zF bF Z (zm bF Z (zo Z (zo Z (zo Z (zF bF Z ?_))))))))))
        refine zm bF Z (zo Z (zo Z (zo Z (zo Z (zF bF Z (zm bF Z (zo Z (zo Z (zo Z (zo Z ?_))))))))))
        refine zF bF Z (za bF Z (cS (aL (zg Z (Dj (b:=⟨b59,0,none⟩) Z Z) (zl (J e51.client) Bw o68 Z (za (J e51.client) Z (aM (inB.n (aQ (aL (zg Z (bI (r:=(k:Int) + 1) Z Z (Dl (by omega) (by omega))) (zm (J ((k:Int) + 1)) Z (cS ?_)))))))))))))
        refine ⟨(by repeat (first | exact aJ _ _ | exact aH _ _ | refine aI ?_ Z _)),_,?_,⟨k + 1,false,_,rfl,rfl,rfl,rfl,(Bb (Ac (g45) g62) g67 (by omega)),by omega,by rw [← hok,Bp he52]; simp [rowsB,h49,h69,h70]⟩⟩
        omega
      ·refine zT bF Z (zm bF Z (zo Z (zo Z (zo Z (zF bF Z (zm bF Z (zo Z (zo Z (zo Z (zF bF Z ?_))))))))))
       refine zm bF Z (zo Z (zo Z (zo Z (zF bF Z (zm bF Z (zo Z (zo Z (zo Z (zo Z (zF bF Z ?_))))))))))
       refine zm bF Z (zo Z (zo Z (zo Z (zo Z (zF bF Z (za bF Z (cS (aL (zg Z (Dj (b:=⟨b59,0,none⟩) Z Z) (zl (J e51.client) Bw o68 Z (za (J e51.client) Z ?_)))))))))))
       refine aM (inB.n (aQ (aL (zg Z (bI (r:=(k:Int) + 1) Z Z (Dl (by omega) (by omega))) (zm (J ((k:Int) + 1)) Z (cS ?_))))))
       refine ⟨(by repeat (first | exact aJ _ _ | exact aH _ _ | refine aI ?_ Z _)),_,?_,⟨k + 1,false,_,rfl,rfl,rfl,rfl,(Bb (Ac (g45) g62) g67 (by omega)),by omega,by rw [← hok,Bp he52]; simp [rowsB,h49,h69]⟩⟩
       omega
    ·refine cS (aD (aF Z (aC (aS (aS (Bo (aQ (aD (cT ?_)))))))))
     cases ok
     ·refine aN Z Z Z (aX (v:=(.bool false)) Z) ?_
      refine zg Z (bC (b:=false) Z) (cS (aE Z (cT (za (J 60) Z (cS (aB (aR (aO (v:=(J 60)) (Ba Z Z) ?_))))))))
      rw [List.drop_eq_nil_of_le (by omega)] at hok
      have hst:Cy s = false:=by
        unfold Cy
        first | (rw [ite_eq0' h11,← hok]; rfl) | (rw [ite_ne0' h11]; first | rfl | exact absurd hok (by simp [rowsB]))
      exact ⟨Bi (by rw [hst]; rfl),(Ac (Ac (g5) g9) g45)⟩
     ·refine aN Z Z Z (aX (v:=(.bool true)) Z) ?_
      refine zg Z (bC (b:=true) Z) (cS (aF Z (aA (aQ (cT (za (J 0) Z (cS (aB (aO (v:=(J 0)) (Ba Z Z) ?_)))))))))
      rw [List.drop_eq_nil_of_le (by omega)] at hok
      have hst:Cy s = true:=by
        unfold Cy
        first | (rw [ite_eq0' h11,← hok]; rfl) | (rw [ite_ne0' h11]; first | rfl | exact absurd hok (by simp [rowsB]))
      exact ⟨Bi (by rw [hst]; rfl),(Ac (Ac (g5) g9) g45)⟩
theorem got_str0 (w : World) (x : ByteArray) : Ret prog 179 [.string x, .int .i64 0] w (fun v w' => v = .string x ∧ w = w') := by
  refine Calls.mono (got_str w x 0) ?_
  rintro e w' (⟨v,rfl,h1,h2,_⟩ | ⟨v,rfl,_,h2⟩)
  · exact ⟨v,rfl,h1,h2⟩
  · exact absurd Z h2
theorem got_strN (w : World) (x : ByteArray) (e : Int) (he : e ≠ 0) : RP prog 179 [.string x, .int .i64 e] w (fun _ _ => False) (fun w' => w = w') := (got_str w x e).mono (fun _ _ h => he h.2.2) (fun _ h => h.1)
theorem got_heap0 (w:World) (x:RHeap):Ret prog 178 [.agg x.cells.toArray,.int .i64 0] w (fun v w'=>v = .agg x.cells.toArray∧w.grownBy w' none):=by
  refine Calls.mono (got_heap w x 0) ?_
  rintro e w' (⟨v,rfl,h1,h2,_⟩ | ⟨v,rfl,_,h2⟩)
  · exact ⟨v,rfl,h1,h2⟩
  · exact absurd Z h2
theorem got_heapN (w:World) (e:Int) (he:e ≠ 0):RP prog 178 [.agg (zHeap).toArray,.int .i64 e] w (fun _ _=>False) (fun w'=>w.grownBy w' none):=(got_heap w ⟨0,⟨none,0,0⟩,0,0,0,0,0,⟨none,0,0⟩⟩ e).mono (fun _ _ h=>he h.2.2) (fun _ h=>h.1)
theorem ite60 {b:Bool} (h:(if b then (0:Int) else 60) = 0):b = true:=by cases b <;> simp_all
theorem ite60n {b:Bool} (h : ¬ (if b then (0:Int) else 60) = 0):b = false:=by cases b <;> simp_all
set_option maxHeartbeats 2000000 in
set_option maxRecDepth 20000 in
theorem gs1_ (w : World) (B ib rb n c : Nat) (bs : List UInt8) (A : Option Addr) (hq : In w B ib rb bs A n c) : RP prog 177 [(.pointer (some ⟨ib, 0, none⟩))] w (fun v w' => ∃ (s : State) (rs : RState) (ros : List RObj) (rest : List UInt8) (A' : Option Addr) (n' c' : Nat), v = .agg rs.cells.toArray ∧ w.grownBy w' (some rb) ∧ rdState bs = some (s, rest) ∧ Cy s = true ∧ StateO w' w.heap.size rs ros s ∧ In w' B ib rb rest A' n' c') (fun w' => w.grownBy w' (some rb) ∧ rdState bs = none) := by
  have hn:=hq.rdr.len
  have hc:=hq.rdr.cap
  have hm:=hq.rdr.max
  have hne:=hq.ne
  have hlt:=hq.rdr.lt
  have hli:=hq.lti
  have hsr:=hq.rdr.ob.lt
  have hsi:=hq.inb.lt
  refine RP.body func177 Z Z Z ?_
  refine cT (bG (cs:=[(J 0),(.slice none 0 0),(J 0),(J 0),(J 0),(J 0),(J 0),(.slice none 0 0),(.slice none 0 0)]) zeroValue50 Z Z Z ?_)
  intro w1 b2 hb3 hz4 g5 o6
  refine cS (cT (bG (cs:=[(J 0),(.slice none 0 0),(J 0),(J 0),(J 0),(J 0),(J 0),(.slice none 0 0),(.slice none 0 0)]) zeroValue50 Z Z Z ?_))
  intro w7 b8 hb9 hz10 g11 o12
  refine cS (cT (zm (.pointer (some ⟨ib,0,none⟩)) Z (zg Z (bX Z) (zg Z (fa202_0 (b:=⟨ib,0,none⟩) Z Z) ?_))))
  have i13:=((hq.st0 g5).st0 g11)
  refine zl (.pointer (some ⟨rb,0,none⟩)) lo200 i13.inb Z (aU call180 (text_ _ _ _ _ _ _ _ i13.rdr) Z Z Z ?_)
  rintro _ w25 (⟨t14,rest15,A16,n17,c18,rfl,g26,hr19,q20⟩ | ⟨x21,e22,rfl,g28,he23,hr24⟩)
  ·have z27:=g26.size
   refine zx (.string (tx t14)) Z (zx (J 0) Z (aU call179 (got_str0 _ (tx t14)) Z Z Z ?_))
   rintro _ _ ⟨rfl,rfl⟩
   refine RL.s2bT (l:=t14) underlying9 underlying97 underlying5 Z Z Z ?_
   intro w30 b31 c32 hb33 hz34 g35 rd36 hc37
   have htl:=rdT_len hr19
   refine aU call148 (getHeap_ _ _ _ _ _ _ rd36 Z (by omega) (by omega) (by omega)) Z Z Z ?_
   rintro _ w45 (⟨h38,rh39,ros40,rfl,g46,hget41,hbt42,H43⟩ | ⟨rfl,g48,hget44⟩)
   ·have z47:=g46.size
    refine zx (.agg (rh39.cells).toArray) Z (zx (J 0) Z (aU call178 (got_heap0 _ rh39) Z Z Z ?_))
    rintro _ w50 ⟨rfl,g51⟩
    have z52:=g51.size
    refine zg Z (fa50_0 (b:=⟨b8,0,none⟩) Z Z) ?_
    have o53:=((((o12.st1 g26 (by omega)).st0 g35).st0 g46).st0 g51)
    refine bE (vs:=rh39.cells) (cs':=[(J rh39.order),(.slice rh39.objs.a rh39.objs.n rh39.objs.c),(J rh39.next),(J rh39.t0),(J rh39.t1),(J rh39.t2),(J rh39.t3),(.slice rh39.free.a rh39.free.n rh39.free.c),(.slice none 0 0)]) sizeOf47 o53 Z Z Z Z Z Z ?_
    intro w54 hz55 g56 o57
    refine cS (cT (zm (.pointer (some ⟨ib,0,none⟩)) Z ?_))
    have i58:=(((((i13.upd g26 q20).st0 g35).st0 g46).st0 g51).st1 g56 (by omega) (by omega) (by omega))
    refine cB call182 (in_n _ _ _ _ _ _ _ _ i58) Z Z Z ?_ ?_
    ·rintro _ w69 ⟨x59,rest60,A61,n62,c63,rfl,g70,hr66,q65⟩; have z71:=g70.size; have hv68:=Dh hr66
     refine zm (.pointer (some ⟨ib,0,none⟩)) Z (zg Z (Ex.mkf (v:=(.func (.func 183) #[(.pointer (some ⟨ib,0,none⟩))] #[])) Z) ?_)
     refine cB call181 (many_rowI _ _ _ _ _ _ _ _ q65 x59 (by omega) 4 (by omega)) Z Z Z ?_ ?_
     ·rintro _ w86 ⟨l74,rest75,A76,c77,A78,n79,c80,rfl,g87,hmo81,hr82,hl83,ow84,q85⟩; have z88:=g87.size
      refine zg Z (fa50_1 (b:=⟨b8,8,none⟩) Z Z) ?_
      have o91:=((o57.st1 g70 (by omega)).st1 g87 (by omega))
      refine bE (vs:=[(.slice A76 x59.toNat c77)]) (cs':=[(J rh39.order),(.slice rh39.objs.a rh39.objs.n rh39.objs.c),(J rh39.next),(J rh39.t0),(J rh39.t1),(J rh39.t2),(J rh39.t3),(.slice rh39.free.a rh39.free.n rh39.free.c),(.slice A76 x59.toNat c77)]) sizeOf48 o91 Z Z Z Z Z Z ?_
      intro w92 hz93 g94 o95
      refine cS (cT (zg Z (bW Z (Aj (cs:=[(J rh39.order),(.slice rh39.objs.a rh39.objs.n rh39.objs.c),(J rh39.next),(J rh39.t0),(J rh39.t1),(J rh39.t2),(J rh39.t3),(.slice rh39.free.a rh39.free.n rh39.free.c),(.slice A76 x59.toNat c77)]) wh50 o95.cl)) ?_))
      have h96:=(((((H43.st0 g51).stX H43 g56 (by omega)).stX H43 g70 (by omega)).stX H43 g87 (by omega)).stX H43 g94 (by omega))
      have o97:=(ow84.st1 g94 (Ow.ne_or ow84 (by omega)))
      have S98:StateO w92 (w30.heap.size) ⟨rh39,⟨A76,x59.toNat,c77⟩⟩ ros40 ⟨h38,l74⟩:=⟨h96,by dsimp only; omega,by dsimp only; omega,o97.weak (by omega)⟩
      refine aU call96 (imgCheck_ _ _ ⟨rh39,⟨A76,x59.toNat,c77⟩⟩ _ ⟨h38,l74⟩ S98.r (Nat.le_refl _)) Z Z Z ?_
      rintro _ w99 ⟨rfl,g100⟩
      have z101:=g100.size
      refine zc (((if Cy ⟨h38,l74⟩ then 0 else 60):Int) = (0:Int)) Z (fun r hr=>bP Z Z hr) (fun h102=>?_) (fun h102=>?_)
      ·refine aU call184 (is_t _) Z Z Z ?_
       rintro _ _ ⟨rfl,rfl⟩
       refine cS (cT ?_)
       have o103:=(o95.st0 g100)
       refine zg Z (bW Z (Aj (cs:=[(J rh39.order),(.slice rh39.objs.a rh39.objs.n rh39.objs.c),(J rh39.next),(J rh39.t0),(J rh39.t1),(J rh39.t2),(J rh39.t3),(.slice rh39.free.a rh39.free.n rh39.free.c),(.slice A76 x59.toNat c77)]) wh50 o103.cl)) ?_
       have o104:=((((((((((o6.st0 g11).st1 g26 (by omega)).st0 g35).st0 g46).st0 g51).st1 g56 (by omega)).st1 g70 (by omega)).st1 g87 (by omega)).st1 g94 (by omega)).st0 g100)
       refine bE (vs:=[(J rh39.order),(.slice rh39.objs.a rh39.objs.n rh39.objs.c),(J rh39.next),(J rh39.t0),(J rh39.t1),(J rh39.t2),(J rh39.t3),(.slice rh39.free.a rh39.free.n rh39.free.c),(.slice A76 x59.toNat c77)]) (cs':=[(J rh39.order),(.slice rh39.objs.a rh39.objs.n rh39.objs.c),(J rh39.next),(J rh39.t0),(J rh39.t1),(J rh39.t2),(J rh39.t3),(.slice rh39.free.a rh39.free.n rh39.free.c),(.slice A76 x59.toNat c77)]) sizeOf50 o104 Z Z Z Z Z Z ?_
       intro w105 hz106 g107 o108
       refine cS (aB (finRP.r (v:=(.agg ([(J rh39.order),(.slice rh39.objs.a rh39.objs.n rh39.objs.c),(J rh39.next),(J rh39.t0),(J rh39.t1),(J rh39.t2),(J rh39.t3),(.slice rh39.free.a rh39.free.n rh39.free.c),(.slice A76 x59.toNat c77)]).toArray)) (resv1 Z (cA Z (Aj (cs:=[(J rh39.order),(.slice rh39.objs.a rh39.objs.n rh39.objs.c),(J rh39.next),(J rh39.t0),(J rh39.t1),(J rh39.t2),(J rh39.t3),(.slice rh39.free.a rh39.free.n rh39.free.c),(.slice A76 x59.toNat c77)]) wh50 o108.cl))) ?_))
       have i109:=(((q85.st1 g94 (by omega) (by omega) (by omega)).st0 g100).st1 g107 (by omega) (by omega) (by omega))
       have h110:=((S98.st0 g100).stX S98 g107 (by omega))
       have hst:=ite60 h102
       exact ⟨⟨h38,l74⟩,⟨rh39,⟨A76,x59.toNat,c77⟩⟩,ros40,_,_,_,_,rfl,(Ah (Ae (Ah (Ae (Ae (Ah (Ae (Ae (Ae (Ae (Ae (An g5 _) (An g11 _)) g26) (An g35 _)) (An g46 _)) (An g51 _)) g56 (by omega)) g70) g87) g94 (by omega)) (An g100 _)) g107 (by omega)),by simp only [rdState,hr19,hget41,hr66,hr82]; rw [if_neg (by omega),if_neg (by rw [hst]; simp)],hst,h110.weak (by omega),i109⟩
      ·refine cB call184 (is_f _) Z Z Z ?_ ?_
       ·intro _ _ hF; exact hF.elim
       ·rintro tv _ rfl
        refine aT (finRP.p ?_)
        have hst:=ite60n h102
        exact ⟨(Ae (Ah (Ae (Ae (Ah (Ae (Ae (Ae (Ae (Ae (An g5 _) (An g11 _)) g26) (An g35 _)) (An g46 _)) (An g51 _)) g56 (by omega)) g70) g87) g94 (by omega)) (An g100 _)),by simp only [rdState,hr19,hget41,hr66,hr82]; rw [if_neg (by omega),if_pos hst]⟩
     ·rintro tv w89 ⟨g90,hr82⟩
      have z113:=g90.size
      refine aT (finRP.p ?_)
      rcases hr82 with hbad | hbad
      ·exact ⟨(Ae (Ae (Ah (Ae (Ae (Ae (Ae (Ae (An g5 _) (An g11 _)) g26) (An g35 _)) (An g46 _)) (An g51 _)) g56 (by omega)) g70) g90),by simp only [rdState,hr19,hget41,hr66]; rw [if_pos (by omega)]⟩
      ·exact ⟨(Ae (Ae (Ah (Ae (Ae (Ae (Ae (Ae (An g5 _) (An g11 _)) g26) (An g35 _)) (An g46 _)) (An g51 _)) g56 (by omega)) g70) g90),by simp only [rdState,hr19,hget41,hr66,hbad]; split <;> rfl⟩
    ·rintro tv w72 ⟨g73,hr66⟩
     have z114:=g73.size
     refine aT (finRP.p ?_)
     exact ⟨(Ae (Ah (Ae (Ae (Ae (Ae (Ae (An g5 _) (An g11 _)) g26) (An g35 _)) (An g46 _)) (An g51 _)) g56 (by omega)) g73),by simp only [rdState,hr19,hget41,hr66]⟩
   ·have z49:=g48.size
    refine zx (.agg (zHeap).toArray) Z (zx (J 60) Z ?_)
    refine cB call178 (got_heapN _ 60 (by decide)) Z Z Z ?_ ?_
    ·intro _ _ hF; exact hF.elim
    ·rintro tv w118 g119
     have z120:=g119.size
     refine aT (finRP.p ?_)
     exact ⟨(Ae (Ae (Ae (Ae (Ae (An g5 _) (An g11 _)) g26) (An g35 _)) (An g48 _)) (An g119 _)),by simp only [rdState,hr19,hget44]⟩
  ·have z29:=g28.size
   refine zx (.string x21) Z (zx (J e22) Z ?_)
   refine cB call179 (got_strN _ x21 e22 he23) Z Z Z ?_ ?_
   ·intro _ _ hF; exact hF.elim
   ·rintro tv _ rfl
    refine aT (finRP.p ?_)
    exact ⟨(Ae (Ae (An g5 _) (An g11 _)) g28),by simp only [rdState,hr24]⟩
set_option maxHeartbeats 400000 in
set_option maxRecDepth 20000 in
theorem wStateIdle (w:World) (p0 p1 p2:Nat):CallsD prog 236 [(.pointer (some ⟨p0,0,none⟩)),(.pointer (some ⟨p1,0,none⟩)),(.pointer (some ⟨p2,0,none⟩))].toArray .returning w (fun e u' w'=>(∃ v,e = .returned v∧v = .tuple #[]∧w.grownBy w' none)∧u' = .returning):=by
  refine CallsD.idle func236 Z Z Z Z Z Z ?_
  refine aD ?_
  refine aL ?_
  refine aN Z Z Z (aX (v:=.nilIface) Z) ?_
  refine aN Z Z Z (Ex.neN Z Z underlying20) ?_
  refine aM ?_
  refine aQ ?_
  refine aF Z ?_
  refine aA ?_
  refine finQ.n (v:=(.tuple #[])) (res0 Z) ?_
  exact ⟨Z,(Bs _ _)⟩
set_option maxHeartbeats 400000 in
set_option maxRecDepth 20000 in
theorem wStateRec (w:World) (p0 p1 p2:Nat) (tv:TypeId × Value) (c0 c1 c2 c3 c4 c5 c6 c7 c8 e0:Value) (h0:Ob w p0 50 zState) (h1:Ob w p1 50 [c0,c1,c2,c3,c4,c5,c6,c7,c8]) (h2:Ob w p2 53 [e0]) (h01:p0 ≠ p1) (h02:p0 ≠ p2) (h12:p1 ≠ p2):CallsD prog 236 [(.pointer (some ⟨p0,0,none⟩)),(.pointer (some ⟨p1,0,none⟩)),(.pointer (some ⟨p2,0,none⟩))].toArray (.panicking [{ v:=.iface tv.1 tv.2,recovered:=false }]) w (fun e u' w'=>(∃ v,e = .returned v∧v = .tuple #[]∧(∀ w0:World,w0.grownBy w none∧w0.heap.size ≤ p1∧w0.heap.size ≤ p2 → w0.grownBy w' none)∧Ob w' p1 50 zState∧Ob w' p2 53 [.int .i64 60])∧u' = .panicking [{ v:=.iface tv.1 tv.2,recovered:=true }]):=by
  refine CallsD.rec func236 Z Z Z Z Z Z ?_
  refine aD ?_
  refine aL ?_
  refine aN Z Z Z (aX (v:=(.iface tv.1 tv.2)) Z) ?_
  refine aN Z Z Z (Ex.neI underlying20 Z Z) ?_
  refine aM ?_
  refine aQ ?_
  refine aE Z ?_
  refine aL ?_
  refine aN Z Z Z (bW Z (Aj (cs:=zState) wh50 h0.cl)) ?_
  refine bE (vs:=zState) (cs':=zState) sizeOf50 h1 Z Z Z Z Z Z ?_
  intro w1 hz2 g3 o4
  have o5:=(h2.st1 g3 (by omega))
  refine bE (vs:=[(J 60)]) (cs':=[(J 60)]) sizeOf53 o5 Z Z Z Z Z Z ?_
  intro w6 hz7 g8 o9
  refine aM ?_
  refine finQ.n (v:=(.tuple #[])) (res0 Z) ?_
  have o10:=(o4.st1 g8 (by omega))
  have o11:=((h0.st1 g3 (by omega)).st1 g8 (by omega))
  exact ⟨Z,fun w0 g0=>Bb (Bb g0.1 g3 (by omega)) g8 (by omega),o10,o9⟩
set_option maxHeartbeats 1000000 in
set_option maxRecDepth 20000 in
theorem wholeState (w:World) (B n c:Nat) (bs:List UInt8) (A:Option Addr) (hr:Rd w B 1 A (Df bs)) (hn:n = bs.length) (hc:n ≤ c) (hm:n ≤ 140737488351232) (hB:B ≤ w.heap.size):Ret prog 176 [(.slice A n c),(.func (.func 177) #[] #[])] w (fun v w'=>(∃ (s:State) (rs:RState) (ros:List RObj),v = .tuple #[.agg rs.cells.toArray,.int .i64 0]∧w.grownBy w' none∧Dn bs = some s∧Cy s = true∧StateO w' w.heap.size rs ros s) ∨ (v = .tuple #[.agg (zState).toArray,.int .i64 60]∧w.grownBy w' none∧Dn bs = none)):=by
  refine Ret.bodyD func176 Z Z Z ?_
  refine cT (bG (cs:=[(J 0),(.slice none 0 0),(J 0),(J 0),(J 0),(J 0),(J 0),(.slice none 0 0),(.slice none 0 0)]) zeroValue50 Z Z Z ?_)
  intro w1 b2 hb3 hz4 g5 o6
  refine bG (cs:=[(J 0)]) zeroValue53 Z Z Z ?_
  intro w7 b8 hb9 hz10 g11 o12
  refine cS (cT (bG (cs:=[(J 0),(.slice none 0 0),(J 0),(J 0),(J 0),(J 0),(J 0),(.slice none 0 0),(.slice none 0 0)]) zeroValue50 Z Z Z ?_))
  intro w13 b14 hb15 hz16 g17 o18
  refine cS (cT (zg Z (Ex.mkf (v:=(.func (.func 236) #[] #[(.pointer (some ⟨b14,0,none⟩)),(.pointer (some ⟨b2,0,none⟩)),(.pointer (some ⟨b8,0,none⟩))])) Z) (RL.dfr (caps := #[(.pointer (some ⟨b14,0,none⟩)),(.pointer (some ⟨b2,0,none⟩)),(.pointer (some ⟨b8,0,none⟩))]) Z Z Z (cS (cT (zm (.slice A n c) Z (aU call237 (new_ _ A n c) Z Z Z ?_)))))))
  rintro _ w22 ⟨b19,rfl,g23,hb20,ob21⟩
  have z24:=g23.size
  refine zg Z (bY (cs:=[(.pointer (some ⟨b19,0,none⟩))]) bd202 Z) ?_
  have hltr:=ob21.lt
  refine bH (cs:=[(.pointer (some ⟨b19,0,none⟩))]) Z Z Z ?_
  intro w25 b26 hb27 hz28 g29 o30
  refine za (.pointer (some ⟨b26,0,none⟩)) Z ?_
  have o31:=(ob21.st0 g29)
  have r32:=(((((hr.st0 g5).st0 g11).st0 g17).st0 g23).st0 g29)
  have q33:In w25 B b26 b19 bs A n c:=⟨⟨o31,hn,hc,hm,r32,by omega⟩,o30,by omega,by omega⟩
  refine cS (cT (zm (.func (.func 177) #[] #[]) Z (zm (.pointer (some ⟨b26,0,none⟩)) Z ?_)))
  refine cC call177 Z (gs1_ _ _ _ _ _ _ _ _ q33) Z Z Z ?_ ?_
  ·rintro _ w45 ⟨s34,rs35,ros36,rest37,A38,n39,c40,rfl,g46,hr41,hst42,S43,q44⟩; have z47:=g46.size
   have o50:=(((((o6.st0 g11).st0 g17).st0 g23).st0 g29).st1 g46 (by omega))
   refine bE (vs:=rs35.cells) (cs':=rs35.cells) sizeOf50 o50 Z Z Z Z Z Z ?_
   intro w51 hz52 g53 o54
   refine cS (cT (zm (.pointer (some ⟨b26,0,none⟩)) Z (zg Z (bX Z) (zg Z (fa202_0 (b:=⟨b26,0,none⟩) Z Z) ?_))))
   have i55:=(q44.st1 g53 (by omega) (by omega) (by omega))
   refine zl (.pointer (some ⟨b19,0,none⟩)) lo200 i55.inb Z (aU call238 (left_ _ _ _ _ _ _ _ i55.rdr) Z Z Z ?_)
   rintro _ _ ⟨rfl,rfl⟩
   refine zc ((((rest37.length:Nat):Int):Int) = (0:Int)) Z (fun r hr=>bP Z Z hr) (fun h56=>?_) (fun h56=>?_)
   ·refine aU call184 (is_t _) Z Z Z ?_
    rintro _ _ ⟨rfl,rfl⟩
    refine cS (cT (zg Z (bW Z (Aj (cs:=rs35.cells) wh50 o54.cl)) (bE (vs:=rs35.cells) (cs':=rs35.cells) sizeOf50 o54 Z Z Z Z Z Z ?_)))
    intro w57 hz58 g59 o60
    have o61:=((((((o12.st0 g17).st0 g23).st0 g29).st1 g46 (by omega)).st1 g53 (by omega)).st1 g59 (by omega))
    refine bE (vs:=[(J 0)]) (cs':=[(J 0)]) sizeOf53 o61 Z Z Z Z Z Z ?_
    intro w62 hz63 g65 o66
    refine cS (aB ?_)
    intro a ha
    refine finD.q (caps:=[(.pointer (some ⟨b14,0,none⟩)),(.pointer (some ⟨b2,0,none⟩)),(.pointer (some ⟨b8,0,none⟩))]) Z call236 (wStateIdle _ b14 b2 b8) ?_ a ha
    rintro _ w67 ⟨rfl,g68⟩
    have z69:=g68.size
    have o70:=((o60.st1 g65 (by omega)).st0 g68)
    have o71:=(o66.st0 g68)
    have h72:=((((S43.stX S43 g53 (by omega)).stX S43 g59 (by omega)).stX S43 g65 (by omega)).st0 g68)
    have hnil:=List.eq_nil_of_length_eq_zero (by have:=h56; omega:rest37.length = 0)
    exact ⟨_,Ch Z (cA Z (Aj (cs:=rs35.cells) wh50 o70.cl)) (cA Z (Ax lo53 (Ob.cell (v:=(J 0)) o71 Z))),.inl ⟨s34,rs35,ros36,rfl,(Ac (Bb (Bb (Bb (Bb (Ac (Ac (Ac (Ac (g5) g11) g17) g23) g29) g46 (by omega)) g53 (by omega)) g59 (by omega)) g65 (by omega)) g68),by unfold Dn; rw [hr41,hnil],hst42,h72.weak (by omega)⟩⟩
   ·refine cB call184 (is_f _) Z Z Z ?_ ?_
    ·intro _ _ hF; exact hF.elim
    ·rintro tv _ rfl
     refine aT ?_
     have o79:=((((o18.st0 g23).st0 g29).st1 g46 (by omega)).st1 g53 (by omega))
     have o80:=(((((o12.st0 g17).st0 g23).st0 g29).st1 g46 (by omega)).st1 g53 (by omega))
     refine finD.p (caps:=[(.pointer (some ⟨b14,0,none⟩)),(.pointer (some ⟨b2,0,none⟩)),(.pointer (some ⟨b8,0,none⟩))]) Z call236 (wStateRec _ b14 b2 b8 tv (J rs35.heap.order) (.slice rs35.heap.objs.a rs35.heap.objs.n rs35.heap.objs.c) (J rs35.heap.next) (J rs35.heap.t0) (J rs35.heap.t1) (J rs35.heap.t2) (J rs35.heap.t3) (.slice rs35.heap.free.a rs35.heap.free.n rs35.heap.free.c) (.slice rs35.rows.a rs35.rows.n rs35.rows.c) (J 0) o79 o54 o80 (by omega) (by omega) (by omega)) ?_
     rintro _ w75 ⟨rfl,gg76,o77,o78⟩
     exact ⟨_,Ch rfl (cA rfl (Aj (cs:=zState) wh50 o77.cl)) (cA rfl (Ax lo53 (Ob.cell (v:=(J 60)) o78 rfl))),.inr ⟨rfl,gg76 _ ⟨(Bb (Bb (Ac (Ac (Ac (Ac (g5) g11) g17) g23) g29) g46 (by omega)) g53 (by omega)),by omega,by omega⟩,by unfold Dn; rw [hr41]; cases rest37 with | nil=>exact absurd rfl h56 | cons _ _=>rfl⟩⟩
  ·rintro tv w48 ⟨g49,hr41⟩
   have z81:=g49.size
   refine aT ?_
   have o86:=(((o18.st0 g23).st0 g29).st1 g49 (by omega))
   have o87:=(((((o6.st0 g11).st0 g17).st0 g23).st0 g29).st1 g49 (by omega))
   have o88:=((((o12.st0 g17).st0 g23).st0 g29).st1 g49 (by omega))
   refine finD.p (caps:=[(.pointer (some ⟨b14,0,none⟩)),(.pointer (some ⟨b2,0,none⟩)),(.pointer (some ⟨b8,0,none⟩))]) Z call236 (wStateRec _ b14 b2 b8 tv (J 0) (.slice none 0 0) (J 0) (J 0) (J 0) (J 0) (J 0) (.slice none 0 0) (.slice none 0 0) (J 0) o86 o87 o88 (by omega) (by omega) (by omega)) ?_
   rintro _ w82 ⟨rfl,gg83,o84,o85⟩
   exact ⟨_,Ch Z (cA Z (Aj (cs:=zState) wh50 o84.cl)) (cA Z (Ax lo53 (Ob.cell (v:=(J 60)) o85 Z))),.inr ⟨Z,gg83 _ ⟨(Bb (Ac (Ac (Ac (Ac (g5) g11) g17) g23) g29) g49 (by omega)),by omega,by omega⟩,by unfold Dn; rw [hr41]⟩⟩
set_option maxHeartbeats 400000 in
set_option maxRecDepth 20000 in
theorem getState_ (w:World) (B n c:Nat) (bs:List UInt8) (A:Option Addr) (hr:Rd w B 1 A (Df bs)) (hn:n = bs.length) (hc:n ≤ c) (hm:n ≤ 140737488351232) (hB:B ≤ w.heap.size):Ret prog 124 [(.slice A n c)] w (fun v w'=>(∃ (s:State) (rs:RState) (ros:List RObj),v = .tuple #[.agg rs.cells.toArray,.int .i64 0]∧w.grownBy w' none∧Dn bs = some s∧Cy s = true∧StateO w' w.heap.size rs ros s) ∨ (v = .tuple #[.agg (zState).toArray,.int .i64 60]∧w.grownBy w' none∧Dn bs = none)):=by
  refine aP func124 Z Z Z ?_
  refine cT (bG (cs:=[(J 0),(.slice none 0 0),(J 0),(J 0),(J 0),(J 0),(J 0),(.slice none 0 0),(.slice none 0 0)]) zeroValue50 Z Z Z ?_)
  intro w1 b2 hb3 hz4 g5 o6
  refine za (J 0) Z (cS (cT (zm (.slice A n c) Z ?_)))
  have r7:=(hr.st0 g5)
  refine aU call176 (wholeState _ _ _ _ _ _ r7 (by omega) (by omega) (by omega) (by omega)) Z Z Z ?_
  rintro _ w15 (⟨s8,rs9,ros10,rfl,g16,hget11,hst12,S13⟩ | ⟨rfl,g18,hget14⟩)
  ·have z17:=g16.size
   refine zx (.agg (rs9.cells).toArray) Z (zx (J 0) Z ?_)
   have o20:=(o6.st0 g16)
   refine bE (vs:=rs9.cells) (cs':=rs9.cells) sizeOf50 o20 Z Z Z Z Z Z ?_
   intro w21 hz22 g23 o24
   refine za (J 0) Z (cS (aB (aO (v:=(.tuple #[(.agg (rs9.cells).toArray),(J 0)])) (Ch Z (cA Z (Aj (cs:=rs9.cells) wh50 o24.cl)) (bZ Z)) ?_)))
   have h25:=(S13.stX S13 g23 (by omega))
   exact .inl ⟨s8,rs9,ros10,rfl,(Bb (Ac (g5) g16) g23 (by omega)),hget11,hst12,h25.weak (by omega)⟩
  ·have z19:=g18.size
   refine zx (.agg (zState).toArray) Z (zx (J 60) Z ?_)
   have o26:=(o6.st0 g18)
   refine bE (vs:=zState) (cs':=zState) sizeOf50 o26 Z Z Z Z Z Z ?_
   intro w27 hz28 g29 o30
   refine za (J 60) Z (cS (aB (aO (v:=(.tuple #[(.agg (zState).toArray),(J 60)])) (Ch Z (cA Z (Aj (cs:=zState) wh50 o30.cl)) (bZ Z)) ?_)))
   exact .inr ⟨Z,(Bb (Ac (g5) g18) g29 (by omega)),hget14⟩
end Go.Proofs.YtfokljnhllflbaaGreat
namespace Go.Proofs.YtfokljnhllflbaaGreat
open Go Go.Eng Go.RowKit Go.Proofs.Tryz
set_option maxHeartbeats 1000000 in
set_option maxRecDepth 20000 in
theorem may_e (w:World) (e:Entry):Ret prog 97 [(.agg (e.cells).toArray)] w (fun v w'=>v = .bool (mayE e)∧w.grownBy w' none):=by
  refine aP func97 Z Z Z ?_
  refine cT (bH (cs:=e.cells) Z Z Z ?_)
  intro w1 b2 hb3 hz4 g5 o6
  refine za bF Z (cS (cT (zg Z (fa31_0 (b:=⟨b2,0,none⟩) Z Z) (zl (J e.num) Bw o6 Z (aU call160 (within_table _ e.num 1 900000000) Z Z Z ?_)))))
  rintro _ _ ⟨rfl,rfl⟩
  rcases hb8:(Az e.num 1 900000000) with _ | _
  ·refine zm bF Z (zo Z (zo Z (zo Z (zF bF Z (za bF Z (cS (aD (cT (zg Z (fa31_2 (b:=⟨b2,2,none⟩) Z Z) (zl (J e.client) Bw o6 Z ?_))))))))))
   refine zc ((e.client:Int) = (0:Int)) Z (fun r hr=>bP Z Z hr) (fun h9=>?_) (fun h9=>?_)
   ·refine cS (aE Z (cT (zm bF Z (zm bF Z (zo Z (zo Z (zo Z (zF bF Z (zm bF Z (zo Z (zo Z (zo Z ?_))))))))))))
    refine zo Z (zF bF Z (za bF Z (cS (aB (aR (aO (v:=bF) (Ba Z Z) ?_))))))
    exact ⟨At (by unfold mayE zOp; simp only [op_eq]; simp [hb8,h9]),(g5)⟩
   ·refine cS (aF Z (aA (aQ (cT (zm bF Z (zm bF Z (zo Z (zo Z (zo Z (zF bF Z (zm bF Z (zo Z (zo Z (zo Z ?_))))))))))))))
    refine zF bF Z (za bF Z (cS (aB (aO (v:=bF) (Ba Z Z) ?_))))
    exact ⟨At (by unfold mayE zOp; simp only [op_eq]; simp [hb8,h9]),(g5)⟩
  ·have hw7:=Bh hb8
   refine zm bT Z (zg Z (fa31_1 (b:=⟨b2,1,none⟩) Z Z) (zl (J e.view) Bw o6 Z (aU call160 (within_table _ e.view 0 900000000) Z Z Z ?_)))
   rintro _ _ ⟨rfl,rfl⟩
   rcases hb11:(Az e.view 0 900000000) with _ | _
   ·refine zT bF Z (za bF Z (cS (aD (cT (zg Z (fa31_2 (b:=⟨b2,2,none⟩) Z Z) (zl (J e.client) Bw o6 Z ?_))))))
    refine zc ((e.client:Int) = (0:Int)) Z (fun r hr=>bP Z Z hr) (fun h12=>?_) (fun h12=>?_)
    ·refine cS (aE Z (cT (zm bF Z (zm bF Z (zo Z (zo Z (zo Z (zF bF Z (zm bF Z (zo Z (zo Z (zo Z ?_))))))))))))
     refine zo Z (zF bF Z (za bF Z (cS (aB (aR (aO (v:=bF) (Ba Z Z) ?_))))))
     exact ⟨At (by unfold mayE zOp; simp only [op_eq]; simp [hb8,hb11,h12]),(g5)⟩
    ·refine cS (aF Z (aA (aQ (cT (zm bF Z (zm bF Z (zo Z (zo Z (zo Z (zF bF Z (zm bF Z (zo Z (zo Z (zo Z ?_))))))))))))))
     refine zF bF Z (za bF Z (cS (aB (aO (v:=bF) (Ba Z Z) ?_))))
     exact ⟨At (by unfold mayE zOp; simp only [op_eq]; simp [hb8,hb11,h12]),(g5)⟩
   ·have hw10:=Bh hb11
    refine zT bT Z (za bT Z (cS (aD (cT (zg Z (fa31_2 (b:=⟨b2,2,none⟩) Z Z) (zl (J e.client) Bw o6 Z ?_))))))
    refine zc ((e.client:Int) = (0:Int)) Z (fun r hr=>bP Z Z hr) (fun h13=>?_) (fun h13=>?_)
    ·refine cS (aE Z (cT (zm bT Z (zm bT Z (zg Z (fa31_3 (b:=⟨b2,3,none⟩) Z Z) (zl (J e.seq) Bw o6 Z ?_))))))
     refine zc ((e.seq:Int) = (0:Int)) Z (fun r hr=>bP Z Z hr) (fun h14=>?_) (fun h14=>?_)
     ·refine zT bT Z (zm bT Z (zg Z (fa31_4 (b:=⟨b2,4,none⟩) Z Z) (zg Z (bW Z (Aj (cs:=[(J e.op.kind),(J e.op.h),(J e.op.i),(J e.op.n),(J e.op.k),(J e.op.v),(J e.op.t)]) wh29 (o6.sub 4 7))) (zg Z (bY (cs:=[(J 0),(J 0),(J 0),(J 0),(J 0),(J 0),(J 0)]) bd29 Z) ?_))))
      refine zc ((e.op.kind:Int) = (0:Int)∧(e.op.h:Int) = (0:Int)∧(e.op.i:Int) = (0:Int)∧(e.op.n:Int) = (0:Int)∧(e.op.k:Int) = (0:Int)∧(e.op.v:Int) = (0:Int)∧(e.op.t:Int) = (0:Int)) Z (fun r hr=>Ex.eqS (xs:=[(J e.op.kind),(J e.op.h),(J e.op.i),(J e.op.n),(J e.op.k),(J e.op.v),(J e.op.t)]) (ys:=[(J 0),(J 0),(J 0),(J 0),(J 0),(J 0),(J 0)]) eqGuardType29 (eqT29 hr) Z Z) (fun h15=>?_) (fun h15=>?_)
      ·refine zT bT Z (za bT Z (cS (aB (aR (aO (v:=bT) (Ba Z Z) ?_)))))
       exact ⟨At (by unfold mayE zOp; simp only [op_eq]; simp [hb8,hb11,h13,h14,h15]),(g5)⟩
      ·refine zT bF Z (za bF Z (cS (aB (aR (aO (v:=bF) (Ba Z Z) ?_)))))
       exact ⟨At (by unfold mayE zOp; simp only [op_eq]; simp [hb8,hb11,h13,h14,h15]),(g5)⟩
     ·refine zT bF Z (zm bF Z (zo Z (zo Z (zo Z (zo Z (zF bF Z (za bF Z (cS (aB (aR (aO (v:=bF) (Ba Z Z) ?_)))))))))))
      exact ⟨At (by unfold mayE zOp; simp only [op_eq]; simp [hb8,hb11,h13,h14]),(g5)⟩
    ·refine cS (aF Z (aA (aQ (cT (zm bT Z (zm bT Z (zg Z (fa31_2 (b:=⟨b2,2,none⟩) Z Z) (zl (J e.client) Bw o6 Z (aU call160 (within_table _ e.client 1 4) Z Z Z ?_)))))))))
     rintro _ _ ⟨rfl,rfl⟩
     rcases hb17:(Az e.client 1 4) with _ | _
     ·refine zT bF Z (zm bF Z (zo Z (zo Z (zo Z (zF bF Z (za bF Z (cS (aB (aO (v:=bF) (Ba Z Z) ?_)))))))))
      exact ⟨At (by unfold mayE zOp; simp only [op_eq]; simp [hb8,hb11,h13,hb17]),(g5)⟩
     ·have hw16:=Bh hb17
      refine zT bT Z (zm bT Z (zg Z (fa31_3 (b:=⟨b2,3,none⟩) Z Z) (zl (J e.seq) Bw o6 Z (aU call160 (within_table _ e.seq 1 1000000) Z Z Z ?_))))
      rintro _ _ ⟨rfl,rfl⟩
      rcases hb19:(Az e.seq 1 1000000) with _ | _
      ·refine zT bF Z (za bF Z (cS (aB (aO (v:=bF) (Ba Z Z) ?_))))
       exact ⟨At (by unfold mayE zOp; simp only [op_eq]; simp [hb8,hb11,h13,hb17,hb19]),(g5)⟩
      ·have hw18:=Bh hb19
       refine zT bT Z (za bT Z (cS (aB (aO (v:=bT) (Ba Z Z) ?_))))
       exact ⟨At (by unfold mayE zOp; simp only [op_eq]; simp [hb8,hb11,h13,hb17,hb19]),(g5)⟩
set_option maxHeartbeats 400000 in
set_option maxRecDepth 20000 in
theorem follows_ (w:World) (s:Sl) (es:List Entry) (fr:Int) (B:Nat) (hn:s.n = es.length) (hm:s.n ≤ 1099511627776) (hr:Rd w B 11 s.a (ents es)):Ret prog 123 [(.slice s.a s.n s.c),(J fr)] w (fun v w'=>v = .bool (follB es fr)∧w.grownBy w' none):=by
  refine aP func123 Z Z Z ?_
  refine cT (za bF Z (cS (aD (cT (zm (.slice s.a s.n s.c) Z (zg Z (bR underlying22 Z) (zm (J 0) Z (cS (aG ?_)))))))))
  refine aK (fun t=>(Nat.ble 4 t && Nat.ble t 6) || (Nat.ble 9 t && Nat.ble t 21)) (fun n ρ wl => ∃ k:Nat,ρ 9 = (J (k:Int))∧n = s.n - k∧World.grownBy w wl none∧k ≤ s.n∧follB (es.take k) fr = true) (s.n) ?aa0 ?bb0
  case aa0=>exact ⟨0,rfl,rfl,Bs _ _,Nat.zero_le _,rfl⟩
  case bb0 =>
   rintro n3 ρ0 w1 ho4 ⟨k,hs0_9,hn0,g2,hk,hf⟩
   obtain ⟨j0,rfl⟩:=ho4.shape1 hs0_9
   clear ho4 hs0_9
   subst hn0
   have z5:=g2.size
   refine cT ?_
   refine zc (((k:Int):Int) < ((s.n:Nat):Int)) Z (fun r hr=>bL Z Z hr) (fun h6=>?_) (fun h6=>?_)
   ·refine cS (aD (aE Z (aA (aQ (aD (aG (cT (zm (J (k:Int)) Z ?_))))))))
    have r7:=(hr.st0 g2)
    obtain ⟨e8,he9⟩ : ∃ e,(es)[k]? = some e:=⟨_,List.getElem?_eq_getElem (by omega)⟩
    obtain ⟨ad10,hA11,hB12,c13⟩:=r7.at_ (Di he9)
    have hl14:=Eng.lt_len (Di he9)
    refine zg Z (bS (b:=ad10.add (k * 11)) (i:=k) underlying22 sizeOf31 (by rw [← hA11]; rfl) Z (by omega) (by omega) Z) (zg Z (bW Z (Aj (cs:=e8.cells) wh31 c13)) (bG (cs:=[(J 0),(J 0),(J 0),(J 0),(J 0),(J 0),(J 0),(J 0),(J 0),(J 0),(J 0)]) zeroValue31 Z Z Z ?_))
    intro w15 b16 hb17 hz18 g19 o20
    refine za (J (k:Int)) Z (bE (vs:=e8.cells) (cs':=e8.cells) sizeOf31 o20 Z Z Z Z Z Z ?_)
    intro w21 hz22 g23 o24
    refine cS (cT (zg Z (fa31_0 (b:=⟨b16,0,none⟩) Z Z) (zl (J e8.num) Bw o24 Z (zg Z (bJ (r:=IntKind.i64.wrap (e8.num - 1)) Z Z Z) (zm (J (k:Int)) Z (zg Z (bJ (r:=IntKind.i64.wrap ((IntKind.i64.wrap (e8.num - 1)) - (k:Int))) Z Z Z) (zm (J fr) Z ?_)))))))
    refine zc ((IntKind.i64.wrap ((IntKind.i64.wrap (e8.num - 1)) - (k:Int)):Int) ≠ (fr:Int)) Z (fun r hr=>bQ Z Z hr) (fun h25=>?_) (fun h25=>?_)
    ·refine cS (aE Z (cT (za bF Z (cS (aB (inB.r (aR (aR (inB.r (aR (aO (v:=bF) (Ba Z Z) ?_)))))))))))
     exact ⟨At (by unfold follB; rw [allI_stop he9 0]; simpa using h25),(Bb (Ac (g2) g19) g23 (by omega))⟩
    ·refine cS (aF Z (aA (inB.n (aQ (aL (zg Z (bI (r:=(k:Int) + 1) Z Z (Dl (by omega) (by omega))) (zm (J ((k:Int) + 1)) Z (cS ?_))))))))
     refine ⟨(by repeat (first | exact aJ _ _ | exact aH _ _ | refine aI ?_ Z _)),_,?_,⟨k + 1,rfl,rfl,(Bb (Ac (g2) g19) g23 (by omega)),by omega,by unfold follB at *; rw [allI_take he9 0,hf]; simp only [Nat.zero_add,Bool.true_and,decide_eq_true_eq]; exact Decidable.not_not.1 h25⟩⟩
     omega
   ·refine cS (aD (aF Z (aC (aS (aS (Bo (aQ (cT (za bT Z (cS (aB (aO (v:=bT) (Ba Z Z) ?_))))))))))))
    exact ⟨At (by rw [← hf,List.take_of_length_le (by omega)]),(g2)⟩
set_option maxHeartbeats 2000000 in
set_option maxRecDepth 20000 in
theorem opCheck_ (w:World) (B:Nat) (rk:RKept) (k:Kept) (H:KeptR w B rk k) (hB:B ≤ w.heap.size):Ret prog 57 [(.agg (rk.cells).toArray)] w (fun v w'=>v = .int .i64 (if Cn k then 0 else 1)∧w.grownBy w' none):=by
  have hkv:=H.view
  have hkn:=H.normal
  have hkb:=H.base
  have him:=H.image
  have hil:=H.im
  have hen:=H.en
  have hem:=H.em
  have hec:=H.ec
  refine aP func57 Z Z Z ?_
  refine cT (bH (cs:=rk.cells) Z Z Z ?_)
  intro w1 b2 hb3 hz4 g5 o6
  refine za (J 0) Z (cS (CW.scope (l:=0) Z (fun _ _ _ h=>h) (cT (za (J 0) Z (cS (aD (cT (zg Z (fa24_0 (b:=⟨b2,0,none⟩) Z Z) (zl (J rk.view) Bw o6 Z (aU call122 (within_oplog _ rk.view 0 900000000) Z Z Z ?_))))))))))
  rintro _ _ ⟨rfl,rfl⟩
  rcases hb8:(Az rk.view 0 900000000) with _ | _
  ·refine zg Z (bC (b:=false) Z) (zm bT Z (zo Z (zo Z (zo Z (zo Z (zo Z (zo Z (zT bT Z (zm bT Z (zo Z ?_))))))))))
   refine zo Z (zo Z (zo Z (zT bT Z (zm bT Z (zo Z (zo Z (zo Z (zo Z (zT bT Z (zm bT Z ?_))))))))))
   refine zo Z (zo Z (zo Z (zo Z (zo Z (zo Z (zT bT Z (cS (aE Z (CW.goto (cM (jm.g (aD (aA (aQ (aD ?_)))))))))))))))
   refine aL (za (J 1) Z (cS (aB (aO (v:=(J 1)) (Ba Z Z) ?_))))
   have hkk:Cn k = false:=by
     unfold Cn
     rw [← hkv,← hkn,← hkb]
     first | (simp [hb8]; done) | (rw [decide_eq_false (by omega : ¬ k.ents.length ≤ 4000)]; simp)
   exact ⟨Bi (by rw [hkk]; rfl),(g5)⟩
  ·have hw7:=Bh hb8
   refine zg Z (bC (b:=true) Z) (zm bF Z (zg Z (fa24_1 (b:=⟨b2,1,none⟩) Z Z) (zl (J rk.normal) Bw o6 Z (zg Z (fa24_0 (b:=⟨b2,0,none⟩) Z Z) (zl (J rk.view) Bw o6 Z (aU call122 (within_oplog _ rk.normal 0 rk.view) Z Z Z ?_))))))
   rintro _ _ ⟨rfl,rfl⟩
   rcases hb10:(Az rk.normal 0 rk.view) with _ | _
   ·refine zg Z (bC (b:=false) Z) (zF bT Z (zm bT Z (zo Z (zo Z (zo Z (zo Z (zT bT Z (zm bT Z (zo Z (zo Z ?_))))))))))
    refine zo Z (zo Z (zT bT Z (zm bT Z (zo Z (zo Z (zo Z (zo Z (zo Z (zo Z (zT bT Z ?_))))))))))
    refine cS (aE Z (CW.goto (cM (jm.g (aD (aA (aQ (cT (za (J 1) Z (cS (aB (aO (v:=(J 1)) (Ba Z Z) ?_))))))))))))
    have hkk:Cn k = false:=by
      unfold Cn
      rw [← hkv,← hkn,← hkb]
      first | (simp [hb8,hb10]; done) | (rw [decide_eq_false (by omega : ¬ k.ents.length ≤ 4000)]; simp)
    exact ⟨Bi (by rw [hkk]; rfl),(g5)⟩
   ·have hw9:=Bh hb10
    refine zg Z (bC (b:=true) Z) (zF bF Z (zm bF Z (zg Z (fa24_2 (b:=⟨b2,2,none⟩) Z Z) (zl (J rk.base) Bw o6 Z (aU call122 (within_oplog _ rk.base 0 900000000) Z Z Z ?_)))))
    rintro _ _ ⟨rfl,rfl⟩
    rcases hb12:(Az rk.base 0 900000000) with _ | _
    ·refine zg Z (bC (b:=false) Z) (zF bT Z (zm bT Z (zo Z (zo Z (zo Z (zo Z (zT bT Z (zm bT Z (zo Z (zo Z ?_))))))))))
     refine zo Z (zo Z (zo Z (zo Z (zT bT Z (cS (aE Z (CW.goto (cM (jm.g (aD (aA (aQ (cT (za (J 1) Z ?_))))))))))))))
     refine cS (aB (aO (v:=(J 1)) (Ba Z Z) ?_))
     have hkk:Cn k = false:=by
       unfold Cn
       rw [← hkv,← hkn,← hkb]
       first | (simp [hb8,hb10,hb12]; done) | (rw [decide_eq_false (by omega : ¬ k.ents.length ≤ 4000)]; simp)
     exact ⟨Bi (by rw [hkk]; rfl),(g5)⟩
    ·have hw11:=Bh hb12
     refine zg Z (bC (b:=true) Z) (zF bF Z (zm bF Z (zg Z (Cv (b:=⟨b2,4,none⟩) Z Z) (zl (.slice rk.ents.a rk.ents.n rk.ents.c) lo22 o6 Z (zg Z (bR underlying22 Z) ?_)))))
     refine zc ((4000:Int) < ((rk.ents.n:Nat):Int)) Z (fun r hr=>bN Z Z hr) (fun h13=>?_) (fun h13=>?_)
     ·refine zF bT Z (zm bT Z (zo Z (zo Z (zo Z (zo Z (zo Z (zo Z (zT bT Z (cS (aE Z (CW.goto (cM (jm.g ?_)))))))))))))
      refine aD (aA (aQ (cT (za (J 1) Z (cS (aB (aO (v:=(J 1)) (Ba Z Z) ?_)))))))
      have hkk:Cn k = false:=by
        unfold Cn
        rw [← hkv,← hkn,← hkb]
        first | (simp [hb8,hb10,hb12]; done) | (rw [decide_eq_false (by omega : ¬ k.ents.length ≤ 4000)]; simp)
      exact ⟨Bi (by rw [hkk]; rfl),(g5)⟩
     ·refine zF bF Z (zm bF Z (zg Z (Cv (b:=⟨b2,4,none⟩) Z Z) (zl (.slice rk.ents.a rk.ents.n rk.ents.c) lo22 o6 Z (zg Z (fa24_2 (b:=⟨b2,2,none⟩) Z Z) (zl (J rk.base) Bw o6 Z ?_)))))
      have h14:=(H.st0 g5)
      refine aU call123 (follows_ _ ⟨rk.ents.a,rk.ents.n,rk.ents.c⟩ k.ents rk.base _ (by first | assumption | omega) (by first | assumption | omega) h14.er) Z Z Z ?_
      rintro _ w15 ⟨rfl,g16⟩
      have z17:=g16.size
      rcases hb18:(follB k.ents rk.base) with _ | _
      ·refine zg Z (bC (b:=false) Z) (zF bT Z (cS (aE Z (CW.goto (cM (jm.g (aD (aA (aQ (cT (za (J 1) Z (cS (aB (aO (v:=(J 1)) (Ba Z Z) ?_))))))))))))))
       have hkk:Cn k = false:=by
         unfold Cn
         rw [← hkv,← hkn,← hkb]
         first | (simp [hb8,hb10,hb12,hb18]; done) | (rw [decide_eq_false (by omega : ¬ k.ents.length ≤ 4000)]; simp)
       exact ⟨Bi (by rw [hkk]; rfl),(Ac (g5) g16)⟩
      ·refine zg Z (bC (b:=true) Z) (zF bF Z (cS (aF Z (aA (aQ (aD (cT (zg Z (Cv (b:=⟨b2,4,none⟩) Z Z) ?_))))))))
       have o19:=(o6.st0 g16)
       refine zl (.slice rk.ents.a rk.ents.n rk.ents.c) lo22 o19 Z (zg Z (bR underlying22 Z) (zm (J 0) Z (cS (aG ?_))))
       refine aK (fun t=>Nat.beq t 3 || Nat.beq t 5 || (Nat.ble 43 t && Nat.ble t 61)) (fun n ρ wl => ∃ (j:Nat) (v:Int),ρ 43 = (J (j:Int))∧ρ 3 = (J v)∧n = rk.ents.n - j∧World.grownBy w15 wl none∧j ≤ rk.ents.n∧entsB rk.normal v (k.ents.drop j) = entsB rk.normal 0 k.ents) (rk.ents.n) ?aa0 ?bb0
       case aa0=>exact ⟨0,0,rfl,rfl,rfl,Bs _ _,Nat.zero_le _,rfl⟩
       case bb0 =>
        rintro n22 ρ0 w20 ho23 ⟨j,v,hs0_43,hs0_3,hn0,g21,hj,hE⟩
        obtain ⟨j0,rfl⟩:=ho23.shape2 hs0_43 hs0_3
        clear ho23 hs0_43 hs0_3
        subst hn0
        have z24:=g21.size
        refine cT ?_
        refine zc (((j:Int):Int) < ((rk.ents.n:Nat):Int)) Z (fun r hr=>bL Z Z hr) (fun h25=>?_) (fun h25=>?_)
        ·refine cS (aD (aE Z (aA (aQ (aD (aG (cT ?_)))))))
         have h26:=((h14.st0 g16).st0 g21)
         obtain ⟨e27,he28⟩ : ∃ e,(k.ents)[j]? = some e:=⟨_,List.getElem?_eq_getElem (by omega)⟩
         obtain ⟨ad29,hA30,hB31,c32⟩:=h26.er.at_ (Di he28)
         have hl33:=Eng.lt_len (Di he28)
         refine zg Z (bS (b:=ad29.add (j * 11)) (i:=j) underlying22 sizeOf31 (by rw [← hA30]; rfl) Z (by omega) (by omega) Z) (zg Z (bW Z (Aj (cs:=e27.cells) wh31 c32)) (bG (cs:=[(J 0),(J 0),(J 0),(J 0),(J 0),(J 0),(J 0),(J 0),(J 0),(J 0),(J 0)]) zeroValue31 Z Z Z ?_))
         intro w34 b35 hb36 hz37 g38 o39
         refine bE (vs:=e27.cells) (cs':=e27.cells) sizeOf31 o39 Z Z Z Z Z Z ?_
         intro w40 hz41 g42 o43
         refine cS (aD (cT (zg Z (bW Z (Aj (cs:=e27.cells) wh31 o43.cl)) (aU call97 (may_e _ e27) Z Z Z ?_))))
         rintro _ w44 ⟨rfl,g45⟩
         have z46:=g45.size
         rcases hb47:(mayE e27) with _ | _
         ·refine zg Z (bC (b:=false) Z) (zm bT Z (zo Z (zo Z (zo Z (zo Z (zo Z (zo Z (zo Z (zT bT Z (cS (aE Z (CW.goto ?_))))))))))))
          refine cM (inB.g (cM (cM (inB.g (cM (jm.g (aD (aA (aQ (cT (za (J 1) Z (cS (aB (aO (v:=(J 1)) (Ba Z Z) ?_))))))))))))))
          have hkk:Cn k = false:=by
            have hE2:=entsB_no hE he28 (by first | exact .inl (by assumption) | exact .inr (by assumption))
            unfold Cn
            rw [← hkv,← hkn,← hkb,hE2]
            simp
          exact ⟨Bi (by rw [hkk]; rfl),(Ac (Bb (Ac (Ac (Ac (g5) g16) g21) g38) g42 (by omega)) g45)⟩
         ·refine zg Z (bC (b:=true) Z) (zm bF Z (zg Z (fa31_1 (b:=⟨b35,1,none⟩) Z Z) ?_))
          have o48:=(o43.st0 g45)
          refine zl (J e27.view) Bw o48 Z (zm (J v) Z (zg Z (fa24_1 (b:=⟨b2,1,none⟩) Z Z) ?_))
          have o49:=((((o19.st0 g21).st0 g38).st1 g42 (by omega)).st0 g45)
          refine zl (J rk.normal) Bw o49 Z (aU call122 (within_oplog _ e27.view v rk.normal) Z Z Z ?_)
          rintro _ _ ⟨rfl,rfl⟩
          rcases hb51:(Az e27.view v rk.normal) with _ | _
          ·refine zg Z (bC (b:=false) Z) (zF bT Z (cS (aE Z (CW.goto (cM (inB.g (cM (cM (inB.g (cM (jm.g (aD (aA (aQ (cT (za (J 1) Z (cS (aB (aO (v:=(J 1)) (Ba Z Z) ?_)))))))))))))))))))
           have hkk:Cn k = false:=by
             have hE2:=entsB_no hE he28 (by first | exact .inl (by assumption) | exact .inr (by assumption))
             unfold Cn
             rw [← hkv,← hkn,← hkb,hE2]
             simp
           exact ⟨Bi (by rw [hkk]; rfl),(Ac (Bb (Ac (Ac (Ac (g5) g16) g21) g38) g42 (by omega)) g45)⟩
          ·have hw50:=Bh hb51
           refine zg Z (bC (b:=true) Z) (zF bF Z (cS (aF Z (aA (aQ (aL (zg Z (fa31_1 (b:=⟨b35,1,none⟩) Z Z) (zl (J e27.view) Bw o48 Z (za (J e27.view) Z (aM (inB.n (aQ (aL (zg Z (bI (r:=(j:Int) + 1) Z Z (Dl (by omega) (by omega))) (zm (J ((j:Int) + 1)) Z (cS ?_))))))))))))))))
           refine ⟨(by repeat (first | exact aJ _ _ | exact aH _ _ | refine aI ?_ Z _)),_,?_,⟨j + 1,_,rfl,rfl,rfl,(Ac (Bb (Ac (g21) g38) g42 (by omega)) g45),by omega,entsB_go hE he28 (by assumption) (by assumption)⟩⟩
           omega
        ·refine cS (aD (aF Z (aC (aS (aS (Bo (aQ (aD (cT (zg Z (fa24_3 (b:=⟨b2,3,none⟩) Z Z) ?_))))))))))
         have o52:=(o19.st0 g21)
         refine zl (.string rk.image) lo9 o52 Z (RL.s2bT (l:=k.image) underlying9 underlying97 underlying5 (by show Value.string rk.image = _; rw [him]) Z Z ?_)
         intro w53 b54 c55 hb56 hz57 g58 rd59 hc60
         refine aU call124 (getState_ _ _ _ _ _ _ rd59 Z (by omega) (by omega) (by omega)) Z Z Z ?_
         rintro _ w69 (⟨s61,rs62,ros63,rfl,g70,hget65,hst66,S67⟩ | ⟨rfl,g72,hget68⟩)
         ·have z71:=g70.size
          refine zm (.tuple #[(.agg (rs62.cells).toArray),(J 0)]) Z (zx (.agg (rs62.cells).toArray) Z (zx (J 0) Z (bG (cs:=[(J 0),(.slice none 0 0),(J 0),(J 0),(J 0),(J 0),(J 0),(.slice none 0 0),(.slice none 0 0)]) zeroValue50 Z Z Z ?_)))
          intro w74 b75 hb76 hz77 g78 o79
          refine bE (vs:=rs62.cells) (cs':=rs62.cells) sizeOf50 o79 Z Z Z Z Z Z ?_
          intro w80 hz81 g82 o83
          refine za (J 0) Z (cS (cT (zm (J 0) Z (zg Z (bP (r:=true) Z Z (by decide)) (cS (aE Z (cT (za (J 0) Z (cS (aB (aR (jm.r (aO (v:=(J 0)) (Ba Z Z) ?_)))))))))))))
          have hkk:Cn k = true:=by
            have hE2:=entsB_end hE (by omega)
            unfold Cn
            rw [← hkv,← hkn,← hkb,hE2,hget65]
            simp [hb8,hb10,hb12,hb18]; omega
          exact ⟨Bi (by rw [hkk]; rfl),(Bb (Ac (Ac (Ac (Ac (Ac (g5) g16) g21) g58) g70) g78) g82 (by omega))⟩
         ·have z73:=g72.size
          refine zm (.tuple #[(.agg (zState).toArray),(J 60)]) Z (zx (.agg (zState).toArray) Z (zx (J 60) Z (bG (cs:=[(J 0),(.slice none 0 0),(J 0),(J 0),(J 0),(J 0),(J 0),(.slice none 0 0),(.slice none 0 0)]) zeroValue50 Z Z Z ?_)))
          intro w84 b85 hb86 hz87 g88 o89
          refine bE (vs:=zState) (cs':=zState) sizeOf50 o89 Z Z Z Z Z Z ?_
          intro w90 hz91 g92 o93
          refine za (J 60) Z (cS (cT (zm (J 60) Z (zg Z (bP (r:=false) Z Z (by decide)) (cS (aF Z (aA (aQ (aD (CW.label (aQ (cT (za (J 1) Z (cS (aB (jm.r (aO (v:=(J 1)) (Ba Z Z) ?_)))))))))))))))))
          have hkk:Cn k = false:=by
            unfold Cn
            rw [hget68]
            simp
          exact ⟨Bi (by rw [hkk]; rfl),(Bb (Ac (Ac (Ac (Ac (Ac (g5) g16) g21) g58) g72) g88) g92 (by omega))⟩
end Go.Proofs.YtfokljnhllflbaaGreat
namespace Go.Proofs.YtfokljnhllflbaaGreat
open Go Go.Eng Go.RowKit Go.Proofs.Tryz
set_option maxHeartbeats 400000 in
set_option maxRecDepth 20000 in
theorem last_ (w:World) (B:Nat) (rk:RKept) (k:Kept) (H:KeptR w B rk k) (hB:B ≤ w.heap.size) (hk:Cn k = true):Ret prog 125 [(.agg (rk.cells).toArray)] w (fun v w'=>v = .int .i64 (Dm k)∧w.grownBy w' none):=by
  have hkv:=H.view
  have hkn:=H.normal
  have hkb:=H.base
  have him:=H.image
  have hil:=H.im
  have hen:=H.en
  have hem:=H.em
  have hec:=H.ec
  have hkt:=keptB_t hk
  refine aP func125 Z Z Z ?_
  refine cT (bH (cs:=rk.cells) Z Z Z ?_)
  intro w1 b2 hb3 hz4 g5 o6
  refine za (J 0) Z (cS (cT (zg Z (fa24_2 (b:=⟨b2,2,none⟩) Z Z) (zl (J rk.base) Bw o6 Z (zg Z (Cv (b:=⟨b2,4,none⟩) Z Z) (zl (.slice rk.ents.a rk.ents.n rk.ents.c) lo22 o6 Z (zg Z (bR underlying22 Z) (zg Z (bI (r:=rk.base + (rk.ents.n:Nat)) Z Z (Dl (by omega) (by omega))) (za (J (rk.base + (rk.ents.n:Nat))) Z (cS (aB (aO (v:=(J (rk.base + (rk.ents.n:Nat)))) (Ba Z Z) ?_))))))))))))
  exact ⟨Bi (by unfold Dm; omega),(g5)⟩
set_option maxHeartbeats 400000 in
set_option maxRecDepth 20000 in
theorem Last_ (w:World) (B:Nat) (rk:RKept) (k:Kept) (H:KeptR w B rk k) (hB:B ≤ w.heap.size):Ret prog 62 [(.agg (rk.cells).toArray)] w (fun v w'=>v = .int .i64 (lastOf k)∧w.grownBy w' none):=by
  have hkv:=H.view
  have hkn:=H.normal
  have hkb:=H.base
  have him:=H.image
  have hil:=H.im
  have hen:=H.en
  have hem:=H.em
  have hec:=H.ec
  refine aP func62 Z Z Z ?_
  refine cT (bH (cs:=rk.cells) Z Z Z ?_)
  intro w1 b2 hb3 hz4 g5 o6
  refine za (J 0) Z (cS (aD (cT (zg Z (bW Z (Aj (cs:=rk.cells) Ct o6.cl)) ?_))))
  have h7:=(H.st0 g5)
  refine aU call57 (opCheck_ _ _ rk k h7 (by have:=Nat.le_refl 0; omega)) Z Z Z ?_
  rintro _ w8 ⟨rfl,g9⟩
  have z10:=g9.size
  refine zc (((if Cn k then 0 else 1):Int) ≠ (0:Int)) Z (fun r hr=>bQ Z Z hr) (fun h11=>?_) (fun h11=>?_)
  ·refine cS (aE Z (cT (za (J 0) Z (cS (aB (aR (aO (v:=(J 0)) (Ba Z Z) ?_)))))))
   exact ⟨Bi (by unfold lastOf; rw [ite_ne0 h11]; rfl),(Ac (g5) g9)⟩
  ·refine cS (aF Z (aA (aQ (cT ?_))))
   have o12:=(o6.st0 g9)
   refine zg Z (bW Z (Aj (cs:=rk.cells) Ct o12.cl)) ?_
   have h13:=(h7.st0 g9)
   refine aU call125 (last_ _ _ rk k h13 (by have:=Nat.le_refl 0; omega) (ite_eq0 h11)) Z Z Z ?_
   rintro _ w14 ⟨rfl,g15⟩
   have z16:=g15.size
   refine za (J (Dm k)) Z (cS (aB (aO (v:=(J (Dm k))) (Ba Z Z) ?_)))
   exact ⟨Bi (by unfold lastOf; rw [ite_eq0 h11]; rfl),(Ac (Ac (g5) g9) g15)⟩
set_option maxHeartbeats 400000 in
set_option maxRecDepth 20000 in
theorem cloneEntN (w:World) (c:Nat):Ret prog 89 [(.slice none 0 c)] w (fun v w' => ∃ (A':Option Addr) (c':Nat),v = .slice A' 0 c'∧w.grownBy w' none∧Ow w' w.heap.size 31 11 A' c' []):=by
  refine aP func89 Z Z Z ?_
  refine cT (za (.slice none 0 0) Z (cS (aD (cT (zm (.slice none 0 c) Z (zg Z (Ex.eqSl0 (r:=true) underlying22 Z Z Z) (cS (aE Z (cT (za (.slice none 0 0) Z (cS (aB (aR (aO (v:=(.slice none 0 0)) (Ba Z Z) ?_))))))))))))))
  exact ⟨none,0,rfl,(Bs _ _),Ow.nil_ _ _ _ _⟩
set_option maxHeartbeats 400000 in
set_option maxRecDepth 20000 in
theorem cloneEntS (w:World) (l:List Entry) (ad:Addr) (n c B:Nat) (hr:Rd w B 11 (some ad) (ents l)) (hn:n = l.length) (hby:n * 88 ≤ 140737488355328):Ret prog 89 [(.slice (some ad) n c)] w (fun v w' => ∃ (A':Option Addr) (c':Nat),v = .slice A' n c'∧w.grownBy w' none∧Ow w' w.heap.size 31 11 A' c' (ents l)):=by
  refine aP func89 Z Z Z ?_
  refine cT (za (.slice none 0 0) Z (cS (aD (cT (zm (.slice (some ad) n c) Z (zg Z (Ex.eqSl0 (r:=false) underlying22 Z Z Z) (cS (aF Z (aA (aQ (cT (RL.bs0 underlying22 sizeOf31 Z Z ?_))))))))))))
  intro w1 b2 hb3 hz4 g5 ow6
  refine zm (.slice (some ad) n c) Z ?_
  have r7:=(hr.st0 g5)
  refine cG (base:=w.heap.size) (xss:=[]) (yss:=ents (l)) el22 Z ow6 Z (by simp [Aq,Au,Ar,Am,Ak,Ap]; try omega) r7 Z (by simp [Aq,Au,Ar,Am,Ak,Ap]; try omega) (ents_one _) (by omega) (by omega) (by omega) Z Z ?_
  intro w8 A9 c10 g11 ow12
  have z13:=g11.size
  refine za (.slice A9 (0 + n) c10) Z (cS (aB (aO (v:=(.slice A9 (0 + n) c10)) (Ba Z Z) ?_)))
  exact ⟨_,_,by rw [Nat.zero_add],(Cu (g5) g11 ow6 (by omega)),ow12.weak (by omega)⟩
theorem cloneEnt (w:World) (l:List Entry) (A:Option Addr) (n c B:Nat) (hr:Rd w B 11 A (ents l)) (hn:n = l.length) (hby:n * 88 ≤ 140737488355328):Ret prog 89 [.slice A n c] w (fun v w' => ∃ (A':Option Addr) (c':Nat),v = .slice A' n c'∧w.grownBy w' none∧Ow w' w.heap.size 31 11 A' c' (ents l)):=by
  cases A with
  | some ad=>exact cloneEntS w l ad n c B hr hn hby
  | none =>
    have hl:l = []:=by
      rcases l with _ | ⟨x,l⟩
      · rfl
      · obtain ⟨ad,h,_⟩:=hr.2 (by simp [Df,ics,rows,Cp,Cq,ents]); cases h
    subst hl; subst hn
    exact cloneEntN w c
set_option maxHeartbeats 400000 in
set_option maxRecDepth 20000 in
theorem heapNew_ (w:World) (o:Int):Ret prog 147 [(J o)] w (fun v w'=>(∃ rh:RHeap,v = .tuple #[.agg rh.cells.toArray,.int .i64 0]∧w.grownBy w' none∧Az o 3 8 = true∧HeapO w' w.heap.size rh [] (newHeap o)) ∨ (v = .tuple #[.agg (zHeap).toArray,.int .i64 1]∧w.grownBy w' none∧Az o 3 8 = false)):=by
  refine aP func147 Z Z Z ?_
  refine cT (bG (cs:=[(J 0),(.slice none 0 0),(J 0),(J 0),(J 0),(J 0),(J 0),(.slice none 0 0)]) zeroValue47 Z Z Z ?_)
  intro w1 b2 hb3 hz4 g5 o6
  refine za (J 0) Z (cS (cT (zm (J o) Z (aU call217 (all_ _ o) Z Z Z ?_))))
  rintro _ w12 (⟨b7,rfl,g13,hb8,ob9,hw10⟩ | ⟨rfl,g15,hw11⟩)
  ·have z14:=g13.size
   refine zm (.tuple #[(.slice (some ⟨b7,0,none⟩) 1 1),(J 0)]) Z (zx (.slice (some ⟨b7,0,none⟩) 1 1) Z (zx (J 0) Z (za (.slice (some ⟨b7,0,none⟩) 1 1) Z (za (J 0) Z (cS (aD (cT (zm (J 0) Z (zg Z (bQ (r:=false) Z Z (by decide)) (cS (aF Z (aA (aQ (cT (zm (J o) Z (zm (.slice (some ⟨b7,0,none⟩) 1 1) Z ?_))))))))))))))))
   refine zg Z (bY (cs:=[(J o),(.slice none 0 0),(J 1),(J 0),(J 0),(J 0),(J 0),(.slice (some ⟨b7,0,none⟩) 1 1)]) bd47 Z) ?_
   have o17:=(o6.st0 g13)
   refine bE (vs:=[(J o),(.slice none 0 0),(J 1),(J 0),(J 0),(J 0),(J 0),(.slice (some ⟨b7,0,none⟩) 1 1)]) (cs':=[(J o),(.slice none 0 0),(J 1),(J 0),(J 0),(J 0),(J 0),(.slice (some ⟨b7,0,none⟩) 1 1)]) sizeOf47 o17 Z Z Z Z Z Z ?_
   intro w18 hz19 g20 o21
   refine za (J 0) Z (cS (aB (aO (v:=(.tuple #[(.agg ([(J o),(.slice none 0 0),(J 1),(J 0),(J 0),(J 0),(J 0),(.slice (some ⟨b7,0,none⟩) 1 1)]).toArray),(J 0)])) (Ch Z (cA Z (Aj (cs:=[(J o),(.slice none 0 0),(J 1),(J 0),(J 0),(J 0),(J 0),(.slice (some ⟨b7,0,none⟩) 1 1)]) wh47 o21.cl)) (bZ Z)) ?_)))
   have o22:=(ob9.st1 g20 (by omega))
   exact .inl ⟨_,rfl,(Bb (Ac (g5) g13) g20 (by omega)),hw10,HeapO.new o22 (by omega)⟩
  ·have z16:=g15.size
   refine zm (.tuple #[(.slice none 0 0),(J 1)]) Z (zx (.slice none 0 0) Z (zx (J 1) Z (za (.slice none 0 0) Z (za (J 1) Z (cS (aD (cT (zm (J 1) Z (zg Z (bQ (r:=true) Z Z (by decide)) (cS (aE Z (cT (zg Z (bY (cs:=[(J 0),(.slice none 0 0),(J 0),(J 0),(J 0),(J 0),(J 0),(.slice none 0 0)]) bd47 Z) (zm (J 1) Z ?_))))))))))))))
   have o23:=(o6.st0 g15)
   refine bE (vs:=[(J 0),(.slice none 0 0),(J 0),(J 0),(J 0),(J 0),(J 0),(.slice none 0 0)]) (cs':=[(J 0),(.slice none 0 0),(J 0),(J 0),(J 0),(J 0),(J 0),(.slice none 0 0)]) sizeOf47 o23 Z Z Z Z Z Z ?_
   intro w24 hz25 g26 o27
   refine za (J 1) Z (cS (aB (aR (aO (v:=(.tuple #[(.agg ([(J 0),(.slice none 0 0),(J 0),(J 0),(J 0),(J 0),(J 0),(.slice none 0 0)]).toArray),(J 1)])) (Ch Z (cA Z (Aj (cs:=[(J 0),(.slice none 0 0),(J 0),(J 0),(J 0),(J 0),(J 0),(.slice none 0 0)]) wh47 o27.cl)) (bZ Z)) ?_))))
   exact .inr ⟨Z,(Bb (Ac (g5) g15) g26 (by omega)),hw11⟩
set_option maxHeartbeats 400000 in
set_option maxRecDepth 20000 in
theorem tableNew_ (w:World) (o:Int):Ret prog 107 [(J o)] w (fun v w'=>(∃ rs:RState,v = .tuple #[.agg rs.cells.toArray,.int .i64 0]∧w.grownBy w' none∧Az o 3 8 = true∧StateO w' w.heap.size rs [] ⟨newHeap o,[]⟩) ∨ (v = .tuple #[.agg (zState).toArray,.int .i64 1]∧w.grownBy w' none∧Az o 3 8 = false)):=by
  refine aP func107 Z Z Z ?_
  refine cT (bG (cs:=[(J 0),(.slice none 0 0),(J 0),(J 0),(J 0),(J 0),(J 0),(.slice none 0 0),(.slice none 0 0)]) zeroValue50 Z Z Z ?_)
  intro w1 b2 hb3 hz4 g5 o6
  refine za (J 0) Z (cS (cT (zm (J o) Z (aU call147 (heapNew_ _ o) Z Z Z ?_))))
  rintro _ w11 (⟨rh7,rfl,g12,hw8,H9⟩ | ⟨rfl,g14,hw10⟩)
  ·have z13:=g12.size
   refine zm (.tuple #[(.agg (rh7.cells).toArray),(J 0)]) Z (zx (.agg (rh7.cells).toArray) Z (zx (J 0) Z (bG (cs:=[(J 0),(.slice none 0 0),(J 0),(J 0),(J 0),(J 0),(J 0),(.slice none 0 0)]) zeroValue47 Z Z Z ?_)))
   intro w16 b17 hb18 hz19 g20 o21
   refine bE (vs:=rh7.cells) (cs':=rh7.cells) sizeOf47 o21 Z Z Z Z Z Z ?_
   intro w22 hz23 g24 o25
   refine za (J 0) Z (cS (aD (cT (zm (J 0) Z (zg Z (bQ (r:=false) Z Z (by decide)) (cS (aF Z (aA (aQ (cT (zg Z (bW Z (Aj (cs:=rh7.cells) wh47 o25.cl)) (zg Z (bY (cs:=[(J rh7.order),(.slice rh7.objs.a rh7.objs.n rh7.objs.c),(J rh7.next),(J rh7.t0),(J rh7.t1),(J rh7.t2),(J rh7.t3),(.slice rh7.free.a rh7.free.n rh7.free.c),(.slice none 0 0)]) bd50 Z) ?_))))))))))))
   have o26:=(((o6.st0 g12).st0 g20).st1 g24 (by omega))
   refine bE (vs:=[(J rh7.order),(.slice rh7.objs.a rh7.objs.n rh7.objs.c),(J rh7.next),(J rh7.t0),(J rh7.t1),(J rh7.t2),(J rh7.t3),(.slice rh7.free.a rh7.free.n rh7.free.c),(.slice none 0 0)]) (cs':=[(J rh7.order),(.slice rh7.objs.a rh7.objs.n rh7.objs.c),(J rh7.next),(J rh7.t0),(J rh7.t1),(J rh7.t2),(J rh7.t3),(.slice rh7.free.a rh7.free.n rh7.free.c),(.slice none 0 0)]) sizeOf50 o26 Z Z Z Z Z Z ?_
   intro w27 hz28 g29 o30
   refine za (J 0) Z (cS (aB (aO (v:=(.tuple #[(.agg ([(J rh7.order),(.slice rh7.objs.a rh7.objs.n rh7.objs.c),(J rh7.next),(J rh7.t0),(J rh7.t1),(J rh7.t2),(J rh7.t3),(.slice rh7.free.a rh7.free.n rh7.free.c),(.slice none 0 0)]).toArray),(J 0)])) (Ch Z (cA Z (Aj (cs:=[(J rh7.order),(.slice rh7.objs.a rh7.objs.n rh7.objs.c),(J rh7.next),(J rh7.t0),(J rh7.t1),(J rh7.t2),(J rh7.t3),(.slice rh7.free.a rh7.free.n rh7.free.c),(.slice none 0 0)]) wh50 o30.cl)) (bZ Z)) ?_)))
   have h31:=(((H9.st0 g20).stX H9 g24 (by omega)).stX H9 g29 (by omega))
   exact .inl ⟨⟨rh7,⟨none,0,0⟩⟩,rfl,(Bb (Bb (Ac (Ac (g5) g12) g20) g24 (by omega)) g29 (by omega)),hw8,StateO.new (h31.weak (by omega))⟩
  ·have z15:=g14.size
   refine zm (.tuple #[(.agg (zHeap).toArray),(J 1)]) Z (zx (.agg (zHeap).toArray) Z (zx (J 1) Z (bG (cs:=[(J 0),(.slice none 0 0),(J 0),(J 0),(J 0),(J 0),(J 0),(.slice none 0 0)]) zeroValue47 Z Z Z ?_)))
   intro w32 b33 hb34 hz35 g36 o37
   refine bE (vs:=zHeap) (cs':=zHeap) sizeOf47 o37 Z Z Z Z Z Z ?_
   intro w38 hz39 g40 o41
   refine za (J 1) Z (cS (aD (cT (zm (J 1) Z (zg Z (bQ (r:=true) Z Z (by decide)) (cS (aE Z (cT (zg Z (bY (cs:=[(J 0),(.slice none 0 0),(J 0),(J 0),(J 0),(J 0),(J 0),(.slice none 0 0),(.slice none 0 0)]) bd50 Z) (zm (J 1) Z ?_))))))))))
   have o42:=(((o6.st0 g14).st0 g36).st1 g40 (by omega))
   refine bE (vs:=[(J 0),(.slice none 0 0),(J 0),(J 0),(J 0),(J 0),(J 0),(.slice none 0 0),(.slice none 0 0)]) (cs':=[(J 0),(.slice none 0 0),(J 0),(J 0),(J 0),(J 0),(J 0),(.slice none 0 0),(.slice none 0 0)]) sizeOf50 o42 Z Z Z Z Z Z ?_
   intro w43 hz44 g45 o46
   refine za (J 1) Z (cS (aB (aR (aO (v:=(.tuple #[(.agg ([(J 0),(.slice none 0 0),(J 0),(J 0),(J 0),(J 0),(J 0),(.slice none 0 0),(.slice none 0 0)]).toArray),(J 1)])) (Ch Z (cA Z (Aj (cs:=[(J 0),(.slice none 0 0),(J 0),(J 0),(J 0),(J 0),(J 0),(.slice none 0 0),(.slice none 0 0)]) wh50 o46.cl)) (bZ Z)) ?_))))
   exact .inr ⟨Z,(Bb (Bb (Ac (Ac (g5) g14) g36) g40 (by omega)) g45 (by omega)),hw10⟩
end Go.Proofs.YtfokljnhllflbaaGreat
namespace Go.Proofs.YtfokljnhllflbaaGreat
open Go Go.Eng Go.RowKit Go.Proofs.Tryz
set_option maxHeartbeats 1000000 in
set_option maxRecDepth 20000 in
theorem put4_ (w:World) (B n c:Nat) (A:Option Addr) (l:List UInt8) (u:Nat) (hr:Rd w B 1 A (Df l)) (hn:n = l.length) (hm:n ≤ 1099511627776):Ret prog 214 [(.slice A n c),(.int .u64 ((u:Nat):Int)),(J 4)] w (fun v w' => ∃ (A':Option Addr) (m c':Nat),v = .slice A' m c'∧w.grownBy w' none∧m = n + 4∧Ow w' w.heap.size 5 1 A' c' (Df (l ++ Cr u))):=by
  refine aP func214 Z Z Z ?_
  refine cT (za (.slice none 0 0) Z (cS (cT (zm (.slice A n c) Z (zg Z (bR underlying97 Z) (zm (J 4) Z (zg Z (bI (r:=(n:Nat) + 4) Z Z (Dl (by omega) (by omega))) (RL.mk0 (c:=(n + 4)) el97 Z Z (by omega) (by omega) (by omega) Z Z ?_))))))))
  intro w1 b2 hb3 g4 ow5
  have z6:=g4.size
  refine zm (.slice A n c) Z ?_
  have r7:=(hr.st0 g4)
  refine cG (base:=w.heap.size) (xss:=[]) (yss:=Df (l)) el97 Z ow5 Z (by simp [Aq,Au,Ar,Am,Ak]; try omega) r7 Z (by simp [Aq,Au,Ar,Am,Ak]; try omega) (bcs_one _) (by omega) (by omega) (by omega) Z Z ?_
  intro w8 A9 c10 g11 ow12
  have z13:=g11.size
  refine za (.slice A9 (0 + n) c10) Z (cS (aD (cT (zm (J 4) Z (zg Z (bJ (r:=3) Z Z Z) (za (J 3) Z (cS (aG (cJ (Dd (aD (cT (zm (J 3) Z ?_)))))))))))))
  refine zg Z (bO (r:=true) Z Z (by decide)) (cS (aE Z (aA (aQ (aD (aG (aL (zm (.slice A9 (0 + n) c10) Z (zm (.int .u64 ((u:Nat):Int)) Z (zm (J 3) Z (zg Z (bK (r:=24) Z Z Z) (zg Z (cE (r:=((u / 16777216:Nat):Int)) Z Z (by decide) (shrN (n:=24) (k:=24) (by decide) (by decide) Z)) (zg Z (cD (r:=((UInt8.ofNat (u / 16777216)).toNat:Int)) underlying234 underlying5 Z (wrapB (u / 16777216))) (cF (cs:=[(.int .u8 ((UInt8.ofNat (u / 16777216)).toNat:Int))]) underlying97 sizeOf5 ze97 Z Z Z (by decide) Z Z Z ?_))))))))))))))
  intro w14 b15 hb16 hz17 g18 o19
  have o20:=(ow12.st0 g18)
  refine cG (base:=w.heap.size) (xss:=[] ++ (Df (l))) (yss:=[[(.int .u8 ((UInt8.ofNat (u / 16777216)).toNat:Int))]]) el97 Z o20 Z (by simp [Aq,Au,Ar,Am,Ak]; try omega) (Ob.rd1 o19 Z) Z Z (by simp [Value.oneCell']) (by omega) (by omega) (by omega) Z Z ?_
  intro w21 A22 c23 g24 ow25
  have z26:=g24.size
  refine za (.slice A22 ((0 + n) + 1) c23) Z (aM (inB.n (aQ (aL (zm (J 3) Z (zg Z (bJ (r:=2) Z Z Z) (za (J 2) Z (cS (Dd (aD (cT (zm (J 2) Z (zg Z (bO (r:=true) Z Z (by decide)) ?_)))))))))))))
  refine cS (aE Z (aA (aQ (aD (aG (aL (zm (.slice A22 ((0 + n) + 1) c23) Z (zm (.int .u64 ((u:Nat):Int)) Z (zm (J 2) Z (zg Z (bK (r:=16) Z Z Z) (zg Z (cE (r:=((u / 65536:Nat):Int)) Z Z (by decide) (shrN (n:=16) (k:=16) (by decide) (by decide) Z)) (zg Z (cD (r:=((UInt8.ofNat (u / 65536)).toNat:Int)) underlying234 underlying5 Z (wrapB (u / 65536))) (cF (cs:=[(.int .u8 ((UInt8.ofNat (u / 65536)).toNat:Int))]) underlying97 sizeOf5 ze97 Z Z Z (by decide) Z Z Z ?_)))))))))))))
  intro w27 b28 hb29 hz30 g31 o32
  have o33:=(ow25.st0 g31)
  refine cG (base:=w.heap.size) (xss:=([] ++ (Df (l))) ++ ([[(.int .u8 ((UInt8.ofNat (u / 16777216)).toNat:Int))]])) (yss:=[[(.int .u8 ((UInt8.ofNat (u / 65536)).toNat:Int))]]) el97 Z o33 Z (by simp [Aq,Au,Ar,Am,Ak]; try omega) (Ob.rd1 o32 Z) Z Z (by simp [Value.oneCell']) (by omega) (by omega) (by omega) Z Z ?_
  intro w34 A35 c36 g37 ow38
  have z39:=g37.size
  refine za (.slice A35 (((0 + n) + 1) + 1) c36) Z (aM (inB.n (aQ (aL (zm (J 2) Z (zg Z (bJ (r:=1) Z Z Z) (za (J 1) Z (cS (Dd (aD (cT (zm (J 1) Z (zg Z (bO (r:=true) Z Z (by decide)) ?_)))))))))))))
  refine cS (aE Z (aA (aQ (aD (aG (aL (zm (.slice A35 (((0 + n) + 1) + 1) c36) Z (zm (.int .u64 ((u:Nat):Int)) Z (zm (J 1) Z (zg Z (bK (r:=8) Z Z Z) (zg Z (cE (r:=((u / 256:Nat):Int)) Z Z (by decide) (shrN (n:=8) (k:=8) (by decide) (by decide) Z)) (zg Z (cD (r:=((UInt8.ofNat (u / 256)).toNat:Int)) underlying234 underlying5 Z (wrapB (u / 256))) (cF (cs:=[(.int .u8 ((UInt8.ofNat (u / 256)).toNat:Int))]) underlying97 sizeOf5 ze97 Z Z Z (by decide) Z Z Z ?_)))))))))))))
  intro w40 b41 hb42 hz43 g44 o45
  have o46:=(ow38.st0 g44)
  refine cG (base:=w.heap.size) (xss:=(([] ++ (Df (l))) ++ ([[(.int .u8 ((UInt8.ofNat (u / 16777216)).toNat:Int))]])) ++ ([[(.int .u8 ((UInt8.ofNat (u / 65536)).toNat:Int))]])) (yss:=[[(.int .u8 ((UInt8.ofNat (u / 256)).toNat:Int))]]) el97 Z o46 Z (by simp [Aq,Au,Ar,Am,Ak]; try omega) (Ob.rd1 o45 Z) Z Z (by simp [Value.oneCell']) (by omega) (by omega) (by omega) Z Z ?_
  intro w47 A48 c49 g50 ow51
  have z52:=g50.size
  refine za (.slice A48 ((((0 + n) + 1) + 1) + 1) c49) Z (aM (inB.n (aQ (aL (zm (J 1) Z (zg Z (bJ (r:=0) Z Z Z) (za (J 0) Z (cS (Dd (aD (cT (zm (J 0) Z (zg Z (bO (r:=true) Z Z (by decide)) ?_)))))))))))))
  refine cS (aE Z (aA (aQ (aD (aG (aL (zm (.slice A48 ((((0 + n) + 1) + 1) + 1) c49) Z (zm (.int .u64 ((u:Nat):Int)) Z (zm (J 0) Z (zg Z (bK (r:=0) Z Z Z) (zg Z (cE (r:=((u / 1:Nat):Int)) Z Z (by decide) (shrN (n:=0) (k:=0) (by decide) (by decide) Z)) (zg Z (cD (r:=((UInt8.ofNat (u / 1)).toNat:Int)) underlying234 underlying5 Z (wrapB (u / 1))) (cF (cs:=[(.int .u8 ((UInt8.ofNat (u / 1)).toNat:Int))]) underlying97 sizeOf5 ze97 Z Z Z (by decide) Z Z Z ?_)))))))))))))
  intro w53 b54 hb55 hz56 g57 o58
  have o59:=(ow51.st0 g57)
  refine cG (base:=w.heap.size) (xss:=((([] ++ (Df (l))) ++ ([[(.int .u8 ((UInt8.ofNat (u / 16777216)).toNat:Int))]])) ++ ([[(.int .u8 ((UInt8.ofNat (u / 65536)).toNat:Int))]])) ++ ([[(.int .u8 ((UInt8.ofNat (u / 256)).toNat:Int))]])) (yss:=[[(.int .u8 ((UInt8.ofNat (u / 1)).toNat:Int))]]) el97 Z o59 Z (by simp [Aq,Au,Ar,Am,Ak]; try omega) (Ob.rd1 o58 Z) Z Z (by simp [Value.oneCell']) (by omega) (by omega) (by omega) Z Z ?_
  intro w60 A61 c62 g63 ow65
  have z66:=g63.size
  refine za (.slice A61 (((((0 + n) + 1) + 1) + 1) + 1) c62) Z (aM (inB.n (aQ (aL (zm (J 0) Z (zg Z (bJ (r := -1) Z Z Z) (za (J (-1)) Z (cS (Dd (aD (cT (zm (J (-1)) Z (zg Z (bO (r:=false) Z Z (by decide)) ?_)))))))))))))
  refine cS (aF Z (aC (aS (aS (Bo (aQ (cT (zm (.slice A61 (((((0 + n) + 1) + 1) + 1) + 1) c62) Z (za (.slice A61 (((((0 + n) + 1) + 1) + 1) + 1) c62) Z (cS (aB (aO (v:=(.slice A61 (((((0 + n) + 1) + 1) + 1) + 1) c62)) (Ba Z Z) ?_))))))))))))
  have hx:(((([] ++ (Df (l))) ++ ([[(.int .u8 ((UInt8.ofNat (u / 16777216)).toNat:Int))]])) ++ ([[(.int .u8 ((UInt8.ofNat (u / 65536)).toNat:Int))]])) ++ ([[(.int .u8 ((UInt8.ofNat (u / 256)).toNat:Int))]])) ++ ([[(.int .u8 ((UInt8.ofNat (u / 1)).toNat:Int))]]) = Df (l ++ Cr u):=by simp [Df,bc,Cr]
  exact ⟨_,_,_,rfl,(Cu (Ac (Cu (Ac (Cu (Ac (Cu (Ac (Cu (g4) g11 ow5 (by omega)) g18) g24 o20 (by omega)) g31) g37 o33 (by omega)) g44) g50 o46 (by omega)) g57) g63 o59 (by omega)),by omega,(hx ▸ ow65).weak (by omega)⟩
set_option maxHeartbeats 1000000 in
set_option maxRecDepth 20000 in
theorem put8_ (w:World) (B n c:Nat) (A:Option Addr) (l:List UInt8) (u:Nat) (hr:Rd w B 1 A (Df l)) (hn:n = l.length) (hm:n ≤ 1099511627776):Ret prog 214 [(.slice A n c),(.int .u64 ((u:Nat):Int)),(J 8)] w (fun v w' => ∃ (A':Option Addr) (m c':Nat),v = .slice A' m c'∧w.grownBy w' none∧m = n + 8∧Ow w' w.heap.size 5 1 A' c' (Df (l ++ Dp u))):=by
  refine aP func214 Z Z Z ?_
  refine cT (za (.slice none 0 0) Z (cS (cT (zm (.slice A n c) Z (zg Z (bR underlying97 Z) (zm (J 8) Z (zg Z (bI (r:=(n:Nat) + 8) Z Z (Dl (by omega) (by omega))) (RL.mk0 (c:=(n + 8)) el97 Z Z (by omega) (by omega) (by omega) Z Z ?_))))))))
  intro w1 b2 hb3 g4 ow5
  have z6:=g4.size
  refine zm (.slice A n c) Z ?_
  have r7:=(hr.st0 g4)
  refine cG (base:=w.heap.size) (xss:=[]) (yss:=Df (l)) el97 Z ow5 Z (by simp [Aq,Au,Ar,Am,Ak]; try omega) r7 Z (by simp [Aq,Au,Ar,Am,Ak]; try omega) (bcs_one _) (by omega) (by omega) (by omega) Z Z ?_
  intro w8 A9 c10 g11 ow12
  have z13:=g11.size
  refine za (.slice A9 (0 + n) c10) Z (cS (aD (cT (zm (J 8) Z (zg Z (bJ (r:=7) Z Z Z) (za (J 7) Z (cS (aG (cJ (Dd (aD (cT (zm (J 7) Z ?_)))))))))))))
  refine zg Z (bO (r:=true) Z Z (by decide)) (cS (aE Z (aA (aQ (aD (aG (aL (zm (.slice A9 (0 + n) c10) Z (zm (.int .u64 ((u:Nat):Int)) Z (zm (J 7) Z (zg Z (bK (r:=56) Z Z Z) (zg Z (cE (r:=((u / 72057594037927936:Nat):Int)) Z Z (by decide) (shrN (n:=56) (k:=56) (by decide) (by decide) Z)) (zg Z (cD (r:=((UInt8.ofNat (u / 72057594037927936)).toNat:Int)) underlying234 underlying5 Z (wrapB (u / 72057594037927936))) (cF (cs:=[(.int .u8 ((UInt8.ofNat (u / 72057594037927936)).toNat:Int))]) underlying97 sizeOf5 ze97 Z Z Z (by decide) Z Z Z ?_))))))))))))))
  intro w14 b15 hb16 hz17 g18 o19
  have o20:=(ow12.st0 g18)
  refine cG (base:=w.heap.size) (xss:=[] ++ (Df (l))) (yss:=[[(.int .u8 ((UInt8.ofNat (u / 72057594037927936)).toNat:Int))]]) el97 Z o20 Z (by simp [Aq,Au,Ar,Am,Ak]; try omega) (Ob.rd1 o19 Z) Z Z (by simp [Value.oneCell']) (by omega) (by omega) (by omega) Z Z ?_
  intro w21 A22 c23 g24 ow25
  have z26:=g24.size
  refine za (.slice A22 ((0 + n) + 1) c23) Z (aM (inB.n (aQ (aL (zm (J 7) Z (zg Z (bJ (r:=6) Z Z Z) (za (J 6) Z (cS (Dd (aD (cT (zm (J 6) Z (zg Z (bO (r:=true) Z Z (by decide)) ?_)))))))))))))
  refine cS (aE Z (aA (aQ (aD (aG (aL (zm (.slice A22 ((0 + n) + 1) c23) Z (zm (.int .u64 ((u:Nat):Int)) Z (zm (J 6) Z (zg Z (bK (r:=48) Z Z Z) (zg Z (cE (r:=((u / 281474976710656:Nat):Int)) Z Z (by decide) (shrN (n:=48) (k:=48) (by decide) (by decide) Z)) (zg Z (cD (r:=((UInt8.ofNat (u / 281474976710656)).toNat:Int)) underlying234 underlying5 Z (wrapB (u / 281474976710656))) (cF (cs:=[(.int .u8 ((UInt8.ofNat (u / 281474976710656)).toNat:Int))]) underlying97 sizeOf5 ze97 Z Z Z (by decide) Z Z Z ?_)))))))))))))
  intro w27 b28 hb29 hz30 g31 o32
  have o33:=(ow25.st0 g31)
  refine cG (base:=w.heap.size) (xss:=([] ++ (Df (l))) ++ ([[(.int .u8 ((UInt8.ofNat (u / 72057594037927936)).toNat:Int))]])) (yss:=[[(.int .u8 ((UInt8.ofNat (u / 281474976710656)).toNat:Int))]]) el97 Z o33 Z (by simp [Aq,Au,Ar,Am,Ak]; try omega) (Ob.rd1 o32 Z) Z Z (by simp [Value.oneCell']) (by omega) (by omega) (by omega) Z Z ?_
  intro w34 A35 c36 g37 ow38
  have z39:=g37.size
  refine za (.slice A35 (((0 + n) + 1) + 1) c36) Z (aM (inB.n (aQ (aL (zm (J 6) Z (zg Z (bJ (r:=5) Z Z Z) (za (J 5) Z (cS (Dd (aD (cT (zm (J 5) Z (zg Z (bO (r:=true) Z Z (by decide)) ?_)))))))))))))
  refine cS (aE Z (aA (aQ (aD (aG (aL (zm (.slice A35 (((0 + n) + 1) + 1) c36) Z (zm (.int .u64 ((u:Nat):Int)) Z (zm (J 5) Z (zg Z (bK (r:=40) Z Z Z) (zg Z (cE (r:=((u / 1099511627776:Nat):Int)) Z Z (by decide) (shrN (n:=40) (k:=40) (by decide) (by decide) Z)) (zg Z (cD (r:=((UInt8.ofNat (u / 1099511627776)).toNat:Int)) underlying234 underlying5 Z (wrapB (u / 1099511627776))) (cF (cs:=[(.int .u8 ((UInt8.ofNat (u / 1099511627776)).toNat:Int))]) underlying97 sizeOf5 ze97 Z Z Z (by decide) Z Z Z ?_)))))))))))))
  intro w40 b41 hb42 hz43 g44 o45
  have o46:=(ow38.st0 g44)
  refine cG (base:=w.heap.size) (xss:=(([] ++ (Df (l))) ++ ([[(.int .u8 ((UInt8.ofNat (u / 72057594037927936)).toNat:Int))]])) ++ ([[(.int .u8 ((UInt8.ofNat (u / 281474976710656)).toNat:Int))]])) (yss:=[[(.int .u8 ((UInt8.ofNat (u / 1099511627776)).toNat:Int))]]) el97 Z o46 Z (by simp [Aq,Au,Ar,Am,Ak]; try omega) (Ob.rd1 o45 Z) Z Z (by simp [Value.oneCell']) (by omega) (by omega) (by omega) Z Z ?_
  intro w47 A48 c49 g50 ow51
  have z52:=g50.size
  refine za (.slice A48 ((((0 + n) + 1) + 1) + 1) c49) Z (aM (inB.n (aQ (aL (zm (J 5) Z (zg Z (bJ (r:=4) Z Z Z) (za (J 4) Z (cS (Dd (aD (cT (zm (J 4) Z (zg Z (bO (r:=true) Z Z (by decide)) ?_)))))))))))))
  refine cS (aE Z (aA (aQ (aD (aG (aL (zm (.slice A48 ((((0 + n) + 1) + 1) + 1) c49) Z (zm (.int .u64 ((u:Nat):Int)) Z (zm (J 4) Z (zg Z (bK (r:=32) Z Z Z) (zg Z (cE (r:=((u / 4294967296:Nat):Int)) Z Z (by decide) (shrN (n:=32) (k:=32) (by decide) (by decide) Z)) (zg Z (cD (r:=((UInt8.ofNat (u / 4294967296)).toNat:Int)) underlying234 underlying5 Z (wrapB (u / 4294967296))) (cF (cs:=[(.int .u8 ((UInt8.ofNat (u / 4294967296)).toNat:Int))]) underlying97 sizeOf5 ze97 Z Z Z (by decide) Z Z Z ?_)))))))))))))
  intro w53 b54 hb55 hz56 g57 o58
  have o59:=(ow51.st0 g57)
  refine cG (base:=w.heap.size) (xss:=((([] ++ (Df (l))) ++ ([[(.int .u8 ((UInt8.ofNat (u / 72057594037927936)).toNat:Int))]])) ++ ([[(.int .u8 ((UInt8.ofNat (u / 281474976710656)).toNat:Int))]])) ++ ([[(.int .u8 ((UInt8.ofNat (u / 1099511627776)).toNat:Int))]])) (yss:=[[(.int .u8 ((UInt8.ofNat (u / 4294967296)).toNat:Int))]]) el97 Z o59 Z (by simp [Aq,Au,Ar,Am,Ak]; try omega) (Ob.rd1 o58 Z) Z Z (by simp [Value.oneCell']) (by omega) (by omega) (by omega) Z Z ?_
  intro w60 A61 c62 g63 ow65
  have z66:=g63.size
  refine za (.slice A61 (((((0 + n) + 1) + 1) + 1) + 1) c62) Z (aM (inB.n (aQ (aL (zm (J 4) Z (zg Z (bJ (r:=3) Z Z Z) (za (J 3) Z (cS (Dd (aD (cT (zm (J 3) Z (zg Z (bO (r:=true) Z Z (by decide)) ?_)))))))))))))
  refine cS (aE Z (aA (aQ (aD (aG (aL (zm (.slice A61 (((((0 + n) + 1) + 1) + 1) + 1) c62) Z (zm (.int .u64 ((u:Nat):Int)) Z (zm (J 3) Z (zg Z (bK (r:=24) Z Z Z) (zg Z (cE (r:=((u / 16777216:Nat):Int)) Z Z (by decide) (shrN (n:=24) (k:=24) (by decide) (by decide) Z)) (zg Z (cD (r:=((UInt8.ofNat (u / 16777216)).toNat:Int)) underlying234 underlying5 Z (wrapB (u / 16777216))) (cF (cs:=[(.int .u8 ((UInt8.ofNat (u / 16777216)).toNat:Int))]) underlying97 sizeOf5 ze97 Z Z Z (by decide) Z Z Z ?_)))))))))))))
  intro w67 b68 hb69 hz70 g71 o72
  have o73:=(ow65.st0 g71)
  refine cG (base:=w.heap.size) (xss:=(((([] ++ (Df (l))) ++ ([[(.int .u8 ((UInt8.ofNat (u / 72057594037927936)).toNat:Int))]])) ++ ([[(.int .u8 ((UInt8.ofNat (u / 281474976710656)).toNat:Int))]])) ++ ([[(.int .u8 ((UInt8.ofNat (u / 1099511627776)).toNat:Int))]])) ++ ([[(.int .u8 ((UInt8.ofNat (u / 4294967296)).toNat:Int))]])) (yss:=[[(.int .u8 ((UInt8.ofNat (u / 16777216)).toNat:Int))]]) el97 Z o73 Z (by simp [Aq,Au,Ar,Am,Ak]; try omega) (Ob.rd1 o72 Z) Z Z (by simp [Value.oneCell']) (by omega) (by omega) (by omega) Z Z ?_
  intro w74 A75 c76 g77 ow78
  have z79:=g77.size
  refine za (.slice A75 ((((((0 + n) + 1) + 1) + 1) + 1) + 1) c76) Z (aM (inB.n (aQ (aL (zm (J 3) Z (zg Z (bJ (r:=2) Z Z Z) (za (J 2) Z (cS (Dd (aD (cT (zm (J 2) Z (zg Z (bO (r:=true) Z Z (by decide)) ?_)))))))))))))
  refine cS (aE Z (aA (aQ (aD (aG (aL (zm (.slice A75 ((((((0 + n) + 1) + 1) + 1) + 1) + 1) c76) Z (zm (.int .u64 ((u:Nat):Int)) Z (zm (J 2) Z (zg Z (bK (r:=16) Z Z Z) (zg Z (cE (r:=((u / 65536:Nat):Int)) Z Z (by decide) (shrN (n:=16) (k:=16) (by decide) (by decide) Z)) (zg Z (cD (r:=((UInt8.ofNat (u / 65536)).toNat:Int)) underlying234 underlying5 Z (wrapB (u / 65536))) (cF (cs:=[(.int .u8 ((UInt8.ofNat (u / 65536)).toNat:Int))]) underlying97 sizeOf5 ze97 Z Z Z (by decide) Z Z Z ?_)))))))))))))
  intro w80 b81 hb82 hz83 g84 o85
  have o86:=(ow78.st0 g84)
  refine cG (base:=w.heap.size) (xss:=((((([] ++ (Df (l))) ++ ([[(.int .u8 ((UInt8.ofNat (u / 72057594037927936)).toNat:Int))]])) ++ ([[(.int .u8 ((UInt8.ofNat (u / 281474976710656)).toNat:Int))]])) ++ ([[(.int .u8 ((UInt8.ofNat (u / 1099511627776)).toNat:Int))]])) ++ ([[(.int .u8 ((UInt8.ofNat (u / 4294967296)).toNat:Int))]])) ++ ([[(.int .u8 ((UInt8.ofNat (u / 16777216)).toNat:Int))]])) (yss:=[[(.int .u8 ((UInt8.ofNat (u / 65536)).toNat:Int))]]) el97 Z o86 Z (by simp [Aq,Au,Ar,Am,Ak]; try omega) (Ob.rd1 o85 Z) Z Z (by simp [Value.oneCell']) (by omega) (by omega) (by omega) Z Z ?_
  intro w87 A88 c89 g90 ow91
  have z92:=g90.size
  refine za (.slice A88 (((((((0 + n) + 1) + 1) + 1) + 1) + 1) + 1) c89) Z (aM (inB.n (aQ (aL (zm (J 2) Z (zg Z (bJ (r:=1) Z Z Z) (za (J 1) Z (cS (Dd (aD (cT (zm (J 1) Z (zg Z (bO (r:=true) Z Z (by decide)) ?_)))))))))))))
  refine cS (aE Z (aA (aQ (aD (aG (aL (zm (.slice A88 (((((((0 + n) + 1) + 1) + 1) + 1) + 1) + 1) c89) Z (zm (.int .u64 ((u:Nat):Int)) Z (zm (J 1) Z (zg Z (bK (r:=8) Z Z Z) (zg Z (cE (r:=((u / 256:Nat):Int)) Z Z (by decide) (shrN (n:=8) (k:=8) (by decide) (by decide) Z)) (zg Z (cD (r:=((UInt8.ofNat (u / 256)).toNat:Int)) underlying234 underlying5 Z (wrapB (u / 256))) (cF (cs:=[(.int .u8 ((UInt8.ofNat (u / 256)).toNat:Int))]) underlying97 sizeOf5 ze97 Z Z Z (by decide) Z Z Z ?_)))))))))))))
  intro w93 b94 hb95 hz96 g97 o98
  have o99:=(ow91.st0 g97)
  refine cG (base:=w.heap.size) (xss:=(((((([] ++ (Df (l))) ++ ([[(.int .u8 ((UInt8.ofNat (u / 72057594037927936)).toNat:Int))]])) ++ ([[(.int .u8 ((UInt8.ofNat (u / 281474976710656)).toNat:Int))]])) ++ ([[(.int .u8 ((UInt8.ofNat (u / 1099511627776)).toNat:Int))]])) ++ ([[(.int .u8 ((UInt8.ofNat (u / 4294967296)).toNat:Int))]])) ++ ([[(.int .u8 ((UInt8.ofNat (u / 16777216)).toNat:Int))]])) ++ ([[(.int .u8 ((UInt8.ofNat (u / 65536)).toNat:Int))]])) (yss:=[[(.int .u8 ((UInt8.ofNat (u / 256)).toNat:Int))]]) el97 Z o99 Z (by simp [Aq,Au,Ar,Am,Ak]; try omega) (Ob.rd1 o98 Z) Z Z (by simp [Value.oneCell']) (by omega) (by omega) (by omega) Z Z ?_
  intro w100 A101 c102 g103 ow104
  have z105:=g103.size
  refine za (.slice A101 ((((((((0 + n) + 1) + 1) + 1) + 1) + 1) + 1) + 1) c102) Z (aM (inB.n (aQ (aL (zm (J 1) Z (zg Z (bJ (r:=0) Z Z Z) (za (J 0) Z (cS (Dd (aD (cT (zm (J 0) Z (zg Z (bO (r:=true) Z Z (by decide)) ?_)))))))))))))
  refine cS (aE Z (aA (aQ (aD (aG (aL (zm (.slice A101 ((((((((0 + n) + 1) + 1) + 1) + 1) + 1) + 1) + 1) c102) Z (zm (.int .u64 ((u:Nat):Int)) Z (zm (J 0) Z (zg Z (bK (r:=0) Z Z Z) (zg Z (cE (r:=((u / 1:Nat):Int)) Z Z (by decide) (shrN (n:=0) (k:=0) (by decide) (by decide) Z)) (zg Z (cD (r:=((UInt8.ofNat (u / 1)).toNat:Int)) underlying234 underlying5 Z (wrapB (u / 1))) (cF (cs:=[(.int .u8 ((UInt8.ofNat (u / 1)).toNat:Int))]) underlying97 sizeOf5 ze97 Z Z Z (by decide) Z Z Z ?_)))))))))))))
  intro w106 b107 hb108 hz109 g110 o111
  have o112:=(ow104.st0 g110)
  refine cG (base:=w.heap.size) (xss:=((((((([] ++ (Df (l))) ++ ([[(.int .u8 ((UInt8.ofNat (u / 72057594037927936)).toNat:Int))]])) ++ ([[(.int .u8 ((UInt8.ofNat (u / 281474976710656)).toNat:Int))]])) ++ ([[(.int .u8 ((UInt8.ofNat (u / 1099511627776)).toNat:Int))]])) ++ ([[(.int .u8 ((UInt8.ofNat (u / 4294967296)).toNat:Int))]])) ++ ([[(.int .u8 ((UInt8.ofNat (u / 16777216)).toNat:Int))]])) ++ ([[(.int .u8 ((UInt8.ofNat (u / 65536)).toNat:Int))]])) ++ ([[(.int .u8 ((UInt8.ofNat (u / 256)).toNat:Int))]])) (yss:=[[(.int .u8 ((UInt8.ofNat (u / 1)).toNat:Int))]]) el97 Z o112 Z (by simp [Aq,Au,Ar,Am,Ak]; try omega) (Ob.rd1 o111 Z) Z Z (by simp [Value.oneCell']) (by omega) (by omega) (by omega) Z Z ?_
  intro w113 A114 c115 g116 ow117
  have z118:=g116.size
  refine za (.slice A114 (((((((((0 + n) + 1) + 1) + 1) + 1) + 1) + 1) + 1) + 1) c115) Z (aM (inB.n (aQ (aL (zm (J 0) Z (zg Z (bJ (r := -1) Z Z Z) (za (J (-1)) Z (cS (Dd (aD (cT (zm (J (-1)) Z (zg Z (bO (r:=false) Z Z (by decide)) ?_)))))))))))))
  refine cS (aF Z (aC (aS (aS (Bo (aQ (cT (zm (.slice A114 (((((((((0 + n) + 1) + 1) + 1) + 1) + 1) + 1) + 1) + 1) c115) Z (za (.slice A114 (((((((((0 + n) + 1) + 1) + 1) + 1) + 1) + 1) + 1) + 1) c115) Z (cS (aB (aO (v:=(.slice A114 (((((((((0 + n) + 1) + 1) + 1) + 1) + 1) + 1) + 1) + 1) c115)) (Ba Z Z) ?_))))))))))))
  have hx:(((((((([] ++ (Df (l))) ++ ([[(.int .u8 ((UInt8.ofNat (u / 72057594037927936)).toNat:Int))]])) ++ ([[(.int .u8 ((UInt8.ofNat (u / 281474976710656)).toNat:Int))]])) ++ ([[(.int .u8 ((UInt8.ofNat (u / 1099511627776)).toNat:Int))]])) ++ ([[(.int .u8 ((UInt8.ofNat (u / 4294967296)).toNat:Int))]])) ++ ([[(.int .u8 ((UInt8.ofNat (u / 16777216)).toNat:Int))]])) ++ ([[(.int .u8 ((UInt8.ofNat (u / 65536)).toNat:Int))]])) ++ ([[(.int .u8 ((UInt8.ofNat (u / 256)).toNat:Int))]])) ++ ([[(.int .u8 ((UInt8.ofNat (u / 1)).toNat:Int))]]) = Df (l ++ Dp u):=by simp [Df,bc,Dp]
  exact ⟨_,_,_,rfl,(Cu (Ac (Cu (Ac (Cu (Ac (Cu (Ac (Cu (Ac (Cu (Ac (Cu (Ac (Cu (Ac (Cu (g4) g11 ow5 (by omega)) g18) g24 o20 (by omega)) g31) g37 o33 (by omega)) g44) g50 o46 (by omega)) g57) g63 o59 (by omega)) g71) g77 o73 (by omega)) g84) g90 o86 (by omega)) g97) g103 o99 (by omega)) g110) g116 o112 (by omega)),by omega,(hx ▸ ow117).weak (by omega)⟩
set_option maxHeartbeats 400000 in
set_option maxRecDepth 20000 in
theorem putNumber_ (w:World) (B n c:Nat) (A:Option Addr) (l:List UInt8) (hr:Rd w B 1 A (Df l)) (hn:n = l.length) (hm:n ≤ 1099511627776) (u:Nat) (hu:u ≤ 2147483647):Ret prog 215 [(.slice A n c),(J ((u:Nat):Int))] w (fun v w' => ∃ (A':Option Addr) (m c':Nat),v = .tuple #[.slice A' m c',.int .i64 0]∧w.grownBy w' none∧m = n + 4∧Ow w' w.heap.size 5 1 A' c' (Df (l ++ Cr u))):=by
  refine aP func215 Z Z Z ?_
  refine cT (za (.slice none 0 0) Z (za (J 0) Z (cS (aD (cT (zm (J ((u:Nat):Int)) Z (zg Z (bL (r:=false) Z Z (decide_eq_false (by omega))) (zm bF Z (zm (J ((u:Nat):Int)) Z (zg Z (bN (r:=false) Z Z (decide_eq_false (by omega))) (zF bF Z (cS (aF Z (aA (aQ (cT ?_))))))))))))))))
  refine zm (.slice A n c) Z (zm (J ((u:Nat):Int)) Z (zg Z (cD (r:=((u:Nat):Int)) underlying3 underlying234 Z (IntWalk.u64_in _ (by omega))) (aU call214 (put4_ _ _ n c _ l u hr (by omega) (by omega)) Z Z Z ?_)))
  rintro _ w6 ⟨A1,m2,c3,rfl,g7,hm4,ow5⟩
  have z8:=g7.size
  refine za (.slice A1 m2 c3) Z (za (J 0) Z (cS (aB (aO (v:=(.tuple #[(.slice A1 m2 c3),(J 0)])) (res2 Z Z Z) ?_))))
  exact ⟨_,_,_,rfl,(g7),by omega,ow5.weak (by omega)⟩
set_option maxHeartbeats 400000 in
set_option maxRecDepth 20000 in
theorem putInt_ (w:World) (B n c:Nat) (A:Option Addr) (l:List UInt8) (hr:Rd w B 1 A (Df l)) (hn:n = l.length) (hm:n ≤ 1099511627776) (x:Int):Ret prog 216 [(.slice A n c),(J x)] w (fun v w' => ∃ (A':Option Addr) (m c':Nat),v = .slice A' m c'∧w.grownBy w' none∧m = n + 8∧Ow w' w.heap.size 5 1 A' c' (Df (l ++ Dp (u64of x)))):=by
  refine aP func216 Z Z Z ?_
  refine cT (za (.slice none 0 0) Z (cS (cT (zm (.slice A n c) Z (zm (J x) Z (zg Z (cD (r:=((u64of x:Nat):Int)) underlying3 underlying234 Z (u64of_eq x)) (aU call214 (put8_ _ _ n c _ l (u64of x) hr (by omega) (by omega)) Z Z Z ?_)))))))
  rintro _ w6 ⟨A1,m2,c3,rfl,g7,hm4,ow5⟩
  have z8:=g7.size
  refine za (.slice A1 m2 c3) Z (cS (aB (aO (v:=(.slice A1 m2 c3)) (Ba Z Z) ?_)))
  exact ⟨_,_,_,rfl,(g7),by omega,ow5.weak (by omega)⟩
end Go.Proofs.YtfokljnhllflbaaGreat
namespace Go.Proofs.YtfokljnhllflbaaGreat
open Go Go.Eng Go.RowKit Go.Proofs.Tryz
theorem putNumberI (w:World) (B n c:Nat) (A:Option Addr) (l:List UInt8) (hr:Rd w B 1 A (Df l)) (hn:n = l.length) (hm:n ≤ 1099511627776) (x:Int) (hx:0 ≤ x∧x ≤ 2147483647):Ret prog 215 [.slice A n c,.int .i64 x] w (fun v w' => ∃ (A':Option Addr) (m c':Nat),v = .tuple #[.slice A' m c',.int .i64 0]∧w.grownBy w' none∧m = n + 4∧Ow w' w.heap.size 5 1 A' c' (Df (l ++ Cr x.toNat))):=by
  have h:=putNumber_ w B n c A l hr hn hm x.toNat (by omega)
  rw [Int.toNat_of_nonneg hx.1] at h
  exact h
set_option maxHeartbeats 400000 in
set_option maxRecDepth 20000 in
theorem putText_ (w:World) (B n c:Nat) (A:Option Addr) (l:List UInt8) (hr:Rd w B 1 A (Df l)) (hn:n = l.length) (hm:n ≤ 1099511627776) (t:List UInt8) (ht:t.length ≤ 65536):Ret prog 144 [(.slice A n c),(.string (tx t))] w (fun v w' => ∃ (A':Option Addr) (m c':Nat),v = .tuple #[.slice A' m c',.int .i64 0]∧w.grownBy w' none∧m = n + 4 + t.length∧Wr w' w.heap.size 5 1 A' m c' (Df (l ++ Cr t.length ++ t))):=by
  refine aP func144 Z Z Z ?_
  refine cT (za (.slice none 0 0) Z (za (J 0) Z (cS (aD (cT (zm (.string (tx t)) Z (zg Z (Ex.lenS underlying9 Z) (zg Z (bN (r:=false) Z Z (decide_eq_false (by rw [tx_size]; omega))) (cS (aF Z (aA (aQ (cT (zm (.slice A n c) Z (zm (.string (tx t)) Z (zg Z (Ex.lenS underlying9 Z) ?_))))))))))))))))
  refine zg Z (cD (r:=((t.length:Nat):Int)) underlying3 underlying234 Z (IntWalk.u64_in _ (by have:=tx_size t; omega))) (aU call214 (put4_ _ _ n c _ l t.length hr (by omega) (by omega)) Z Z Z ?_)
  rintro _ w6 ⟨A1,m2,c3,rfl,g7,hm4,ow5⟩
  have z8:=g7.size
  refine zm (.string (tx t)) Z ?_
  have owr15:Wr w6 (w.heap.size) 5 1 A1 m2 c3 (Df (l ++ Cr t.length)):=(ow5.wr (by simp only [Aq,List.length_append,Cr,Dp,List.length_cons,List.length_nil]; omega))
  refine RL.appT (base:=w.heap.size) (xs:=(l ++ Cr t.length)) (l:=t) el97 underlying9 owr15 Z Z (ow5.ne_none (by simp only [Aq,List.length_append,Cr,Dp,List.length_cons,List.length_nil]; omega)) (by omega) (by omega) (by omega) Z Z ?_
  intro w9 A10 c11 g12 ow13 nx14
  have z16:=g12.size
  refine za (.slice A10 (m2 + t.length) c11) Z (za (J 0) Z (cS (aB (aO (v:=(.tuple #[(.slice A10 (m2 + t.length) c11),(J 0)])) (res2 Z Z Z) ?_))))
  exact ⟨_,_,_,rfl,(grow_wr (g7) g12 owr15 (by omega)),by omega,ow13.weak (by omega)⟩
end Go.Proofs.YtfokljnhllflbaaGreat
