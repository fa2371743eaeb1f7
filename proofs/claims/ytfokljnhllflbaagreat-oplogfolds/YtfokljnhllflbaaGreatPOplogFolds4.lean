/- Part 5 of the proof of OplogFolds: Spec21, EngRef, R1, Spec16, Spec22, EngOut, R2, Spec23, R3, Spec24, R4, Spec25. -/
import Derived.Deep.Quiet
import Derived.Ground.NamesProg
import Derived.Ground.SlgcProg
import Derived.Ground.SlsfProg
import Derived.JoinedOf
import Derived.Laws.BytesString
import Derived.Laws.MakeOwn
import Derived.Laws.Strings
import Derived.Lib.AppendZeros
import Derived.Lib.ConvBytes
import Derived.Lib.Overlaps
import Derived.Maps.AppendAt
import Derived.OrdersHeld
import Derived.ProofKit
import Derived.Recover
import Derived.ScopeJumps
import Derived.Shelf.SlSortCmp.NoneTotal
import Derived.Shelf.SlSortCmp.WholeK
import Derived.Shelf.SlicesG.Cmp
import Derived.Shelf.Small.Bits
import Derived.Sort.OwnSortedInts
import Derived.StillTail
import Derived.Test.YtfokljnhllflbaaGreatProg
import Derived.WalkKit
import Derived.WalkLawsBesides
import Derived.WalkSpells
import Derived.Test.YtfokljnhllflbaaGreatPOplogFolds3
set_option linter.unusedSimpArgs false
set_option linter.unusedVariables false
namespace Go.Eng
open Go
abbrev SB:=List UInt8 × Bool
def numF (s:SB):Int × SB:=match rdN s.1 with
  | some (x,r)=>(x,(r,s.2))
  | none=>(0,(s.1,true))
def intF (s:SB):Int × SB:=match rdI s.1 with
  | some (x,r)=>(x,(r,s.2))
  | none=>(0,(s.1,true))
def manyF {α:Type} (f:SB → α × SB):Nat → SB → List α × SB
  | 0,s=>([],s)
  | k + 1,s=>((manyF f k s).1 ++ [(f (manyF f k s).2).1],(f (manyF f k s).2).2)
def objF (s:SB):Obj × SB :=
  let h:=numF s
  let a:=numF h.2
  let nw:=numF a.2
  let nl:=numF nw.2
  if By nw.1 nl.1 < 0 then (⟨h.1,⟨a.1,By nw.1 nl.1⟩,[],[]⟩,(nl.2.1,true))
  else
    let ws:=manyF intF nw.1.toNat nl.2
    let ls:=manyF numF nl.1.toNat ws.2
    (⟨h.1,⟨a.1,By nw.1 nl.1⟩,ws.1,ls.1⟩,ls.2)
def rowF (s:SB):Row × SB :=
  let c:=numF s
  let q:=numF c.2
  let d:=numF q.2
  let v:=intF d.2
  (⟨c.1,q.1,d.1,v.1⟩,v.2)
structure Rds {α:Type} (f:SB → α × SB) (rd:List UInt8 → Option (α × List UInt8)):Prop where
  ok : ∀ bs x r,rd bs = some (x,r) → f (bs,false) = (x,(r,false))
  no : ∀ bs,rd bs = none → (f (bs,false)).2.2 = true
  bad : ∀ bs,(f (bs,true)).2.2 = true
theorem Rds.bad' {α:Type} {f:SB → α × SB} {rd:List UInt8 → Option (α × List UInt8)} (h:Rds f rd) {s:SB} (hs:s.2 = true):(f s).2.2 = true:=by
  obtain ⟨bs,b⟩:=s
  simp only at hs
  subst hs
  exact h.bad bs
theorem Rds.get {α:Type} {f:SB → α × SB} {rd:List UInt8 → Option (α × List UInt8)} (h:Rds f rd) {s:SB} (hs:(f s).2.2 = false):s.2 = false∧rd s.1 = some ((f s).1,(f s).2.1):=by
  obtain ⟨bs,b⟩:=s
  cases b with
  | true=>rw [h.bad bs] at hs; cases hs
  | false =>
    refine ⟨Z,?_⟩
    cases e:rd bs with
    | none=>rw [h.no bs e] at hs; cases hs
    | some x=>obtain ⟨x,r⟩:=x; rw [h.ok bs x r e]
theorem num_rds:Rds numF rdN where
  ok bs x r h:=by unfold numF; simp only [h]
  no bs h:=by unfold numF; simp only [h]
  bad bs:=by unfold numF; split <;> rfl
theorem int_rds:Rds intF rdI where
  ok bs x r h:=by unfold intF; simp only [h]
  no bs h:=by unfold intF; simp only [h]
  bad bs:=by unfold intF; split <;> rfl
theorem many_rds {α:Type} {f:SB → α × SB} {rd:List UInt8 → Option (α × List UInt8)} (h:Rds f rd) : ∀ k,Rds (manyF f k) (rdL rd k)
  | 0=>⟨fun bs x r e=>by simp [rdL] at e; obtain ⟨rfl,rfl⟩:=e; rfl,fun bs e=>by simp [rdL] at e,fun bs=>rfl⟩
  | k + 1=>by
    have ih:=many_rds h k
    refine ⟨fun bs x r e=>?_,fun bs e=>?_,fun bs=>?_⟩
    · unfold rdL at e
      split at e
      · cases e
      · rename_i l r1 e1
        split at e
        · cases e
        · rename_i y r2 e2
          simp only [Option.some.injEq,Prod.mk.injEq] at e
          obtain ⟨rfl,rfl⟩:=e
          unfold manyF
          rw [ih.ok bs l r1 e1]
          simp only [h.ok _ _ _ e2]
    · unfold rdL at e
      unfold manyF
      split at e
      · rename_i e1
        exact h.bad' (ih.no bs e1)
      · rename_i l r1 e1
        split at e
        · rename_i e2
          simp only [ih.ok bs l r1 e1]
          exact h.no _ e2
        · cases e
    · unfold manyF
      exact h.bad' (ih.bad bs)
theorem obj_rds:Rds objF rdObj:=by
  have key : ∀ s:SB,(objF s).2.2 = false → s.2 = false∧rdObj s.1 = some ((objF s).1,(objF s).2.1):=by
    intro s hs
    unfold objF at hs ⊢
    simp only at hs ⊢
    by_cases hn:By (numF (numF (numF s).2).2).1 (numF (numF (numF (numF s).2).2).2).1 < 0
    · rw [if_pos hn] at hs; cases hs
    · rw [if_neg hn] at hs ⊢
      obtain ⟨h6,e6⟩:=(many_rds num_rds _).get hs
      obtain ⟨h5,e5⟩:=(many_rds int_rds _).get h6
      obtain ⟨h4,e4⟩:=num_rds.get h5
      obtain ⟨h3,e3⟩:=num_rds.get h4
      obtain ⟨h2,e2⟩:=num_rds.get h3
      obtain ⟨h1,e1⟩:=num_rds.get h2
      refine ⟨h1,?_⟩
      unfold rdObj
      simp only [e1,e2,e3,e4]
      rw [if_neg hn]
      simp only [e5,e6]
  refine ⟨fun bs x r e=>?_,fun bs e=>?_,fun bs=>?_⟩
  · unfold rdObj at e
    split at e
    · cases e
    · rename_i a1 r1 e1
      split at e
      · cases e
      · rename_i a2 r2 e2
        split at e
        · cases e
        · rename_i a3 r3 e3
          split at e
          · cases e
          · rename_i a4 r4 e4
            split at e
            · cases e
            · rename_i hn
              split at e
              · cases e
              · rename_i l5 r5 e5
                split at e
                · cases e
                · rename_i l6 r6 e6
                  simp only [Option.some.injEq,Prod.mk.injEq] at e
                  obtain ⟨rfl,rfl⟩:=e
                  unfold objF
                  simp only [num_rds.ok _ _ _ e1,num_rds.ok _ _ _ e2,num_rds.ok _ _ _ e3,num_rds.ok _ _ _ e4]
                  rw [if_neg hn]
                  simp only [(many_rds int_rds _).ok _ _ _ e5,(many_rds num_rds _).ok _ _ _ e6]
  · cases h:(objF (bs,false)).2.2 with
    | true=>rfl
    | false =>
      have e2:=(key _ h).2
      rw [show ((bs,false):SB).1 = bs from rfl,e] at e2
      cases e2
  · cases h:(objF (bs,true)).2.2 with
    | true=>rfl
    | false=>cases (key _ h).1
theorem row_rds:Rds rowF rdRow:=by
  have key : ∀ s:SB,(rowF s).2.2 = false → s.2 = false∧rdRow s.1 = some ((rowF s).1,(rowF s).2.1):=by
    intro s hs
    unfold rowF at hs ⊢
    simp only at hs ⊢
    obtain ⟨h4,e4⟩:=int_rds.get hs
    obtain ⟨h3,e3⟩:=num_rds.get h4
    obtain ⟨h2,e2⟩:=num_rds.get h3
    obtain ⟨h1,e1⟩:=num_rds.get h2
    refine ⟨h1,?_⟩
    unfold rdRow
    simp only [e1,e2,e3,e4]
  refine ⟨fun bs x r e=>?_,fun bs e=>?_,fun bs=>?_⟩
  · unfold rdRow at e
    split at e
    · cases e
    · rename_i a1 r1 e1
      split at e
      · cases e
      · rename_i a2 r2 e2
        split at e
        · cases e
        · rename_i a3 r3 e3
          split at e
          · cases e
          · rename_i a4 r4 e4
            simp only [Option.some.injEq,Prod.mk.injEq] at e
            obtain ⟨rfl,rfl⟩:=e
            unfold rowF
            simp only [num_rds.ok _ _ _ e1,num_rds.ok _ _ _ e2,num_rds.ok _ _ _ e3,int_rds.ok _ _ _ e4]
  · cases h:(rowF (bs,false)).2.2 with
    | true=>rfl
    | false =>
      have e2:=(key _ h).2
      rw [show ((bs,false):SB).1 = bs from rfl,e] at e2
      cases e2
  · cases h:(rowF (bs,true)).2.2 with
    | true=>rfl
    | false=>cases (key _ h).1
theorem many_len {α:Type} {f:SB → α × SB} : ∀ (k:Nat) (s:SB),(manyF f k s).1.length = k
  | 0,_=>rfl
  | k + 1,s=>by unfold manyF; rw [List.length_append,many_len k s]; rfl
theorem rdL_pre {α:Type} {rd:List UInt8 → Option (α × List UInt8)} {bs:List UInt8} : ∀ {n k:Nat},k ≤ n → (rdL rd n bs).isSome = true → (rdL rd k bs).isSome = true
  | 0, k, hk, h => by have : k = 0 := by omega
                      subst this; exact h
  | n + 1,k,hk,h=>by
    by_cases e:k = n + 1
    · subst e; exact h
    · refine rdL_pre (n:=n) (by omega) ?_
      unfold rdL at h
      split at h
      · cases h
      · rename_i e1; rw [e1]; rfl
theorem getHeap_ref {bs r:List UInt8} {k:Nat} {order next t0 t1 t2 t3 n:Int} {s1 s2 s3 s4 s5 s6 s7:SB} {os:List Obj} {bd:Bool}
    (h1:numF (bs,false) = (order,s1)) (h2:numF s1 = (next,s2)) (h3:numF s2 = (t0,s3)) (h4:numF s3 = (t1,s4)) (h5:numF s4 = (t2,s5)) (h6:numF s5 = (t3,s6)) (h7:numF s6 = (n,s7))
    (h8:manyF objF k s7 = (os,(r,bd))) (hk:(k:Int) ≤ n) (hx : ¬ (k:Int) < n ∨ 256 < k ∨ bd = true) :
    getHeap bs = if bd = false∧r = []∧Az order 3 8 = true∧n = os.length∧Dc ⟨order,os,next,t0,t1,t2,t3,Dq (Af order) (os.map Obj.blk) [⟨0,order⟩]⟩ = true then some ⟨order,os,next,t0,t1,t2,t3,Dq (Af order) (os.map Obj.blk) [⟨0,order⟩]⟩ else none:=by
  have hl:os.length = k:=by have:=many_len (f:=objF) k s7; rw [h8] at this; exact this
  split
  · rename_i hc
    obtain ⟨rfl,rfl,c3,c4,c5⟩:=hc
    have g8:=(many_rds obj_rds k).get (s:=s7) (by rw [h8])
    have g7:=num_rds.get (s:=s6) (by rw [h7]; exact g8.1)
    have g6:=num_rds.get (s:=s5) (by rw [h6]; exact g7.1)
    have g5:=num_rds.get (s:=s4) (by rw [h5]; exact g6.1)
    have g4:=num_rds.get (s:=s3) (by rw [h4]; exact g5.1)
    have g3:=num_rds.get (s:=s2) (by rw [h3]; exact g4.1)
    have g2:=num_rds.get (s:=s1) (by rw [h2]; exact g3.1)
    have g1:=num_rds.get (s:=(bs,false)) (by rw [h1]; exact g2.1)
    have f1:=g1.2; have f2:=g2.2; have f3:=g3.2; have f4:=g4.2; have f5:=g5.2; have f6:=g6.2; have f7:=g7.2; have f8:=g8.2
    rw [h1] at f1; rw [h2] at f2; rw [h3] at f3; rw [h4] at f4; rw [h5] at f5; rw [h6] at f6; rw [h7] at f7; rw [h8] at f8
    have hob:=(heap_right _).1 c5
    have hle:=hob.2.2.1
    simp only at hle
    unfold getHeap rdHeap
    simp only [f1,f2,f3,f4,f5,f6,f7]
    rw [if_neg (by omega)]
    have e:n.toNat = k:=by omega
    rw [e]
    simp only [f8]
    rw [if_neg (by rw [c3]; simp),if_neg (by rw [c5]; simp)]
  · rename_i hc
    cases hg:getHeap bs with
    | none=>rfl
    | some H =>
      exfalso
      apply hc
      unfold getHeap rdHeap at hg
      split at hg
      · rename_i H' e
        split at e
        · cases e
        · rename_i x1 r1 e1
          split at e
          · cases e
          · rename_i x2 r2 e2
            split at e
            · cases e
            · rename_i x3 r3 e3
              split at e
              · cases e
              · rename_i x4 r4 e4
                split at e
                · cases e
                · rename_i x5 r5 e5
                  split at e
                  · cases e
                  · rename_i x6 r6 e6
                    split at e
                    · cases e
                    · rename_i x7 r7 e7
                      split at e
                      · cases e
                      · rename_i hk7
                        split at e
                        · cases e
                        · rename_i l8 r8 e8
                          split at e
                          · cases e
                          · rename_i hw
                            split at e
                            · cases e
                            · rename_i hh
                              simp only [Option.some.injEq,Prod.mk.injEq] at e
                              obtain ⟨_,rfl⟩:=e
                              have a1:=num_rds.ok _ _ _ e1; rw [h1] at a1; injection a1 with b1 c1; subst b1; subst c1
                              have a2:=num_rds.ok _ _ _ e2; rw [h2] at a2; injection a2 with b2 c2; subst b2; subst c2
                              have a3:=num_rds.ok _ _ _ e3; rw [h3] at a3; injection a3 with b3 c3; subst b3; subst c3
                              have a4:=num_rds.ok _ _ _ e4; rw [h4] at a4; injection a4 with b4 c4; subst b4; subst c4
                              have a5:=num_rds.ok _ _ _ e5; rw [h5] at a5; injection a5 with b5 c5; subst b5; subst c5
                              have a6:=num_rds.ok _ _ _ e6; rw [h6] at a6; injection a6 with b6 c6; subst b6; subst c6
                              have a7:=num_rds.ok _ _ _ e7; rw [h7] at a7; injection a7 with b7 c7; subst b7; subst c7
                              have hpre:=rdL_pre (rd:=rdObj) (bs:=r7) (n:=n.toNat) (k:=k) (by omega) (by rw [e8]; rfl)
                              obtain ⟨⟨l9,r9⟩,e9⟩:=Option.isSome_iff_exists.1 hpre
                              have a8:=(many_rds obj_rds k).ok _ _ _ e9
                              rw [h8] at a8
                              injection a8 with b8 c8
                              injection c8 with c8 d8
                              subst b8; subst c8; subst d8
                              have ek:n.toNat = k:=by
                                rcases hx with hx | hx | hx
                                · omega
                                · omega
                                · cases hx
                              rw [ek,e9] at e8
                              injection e8 with e8
                              injection e8 with b9 c9
                              subst b9; subst c9
                              refine ⟨Z,rfl,by simpa using hw,by omega,by simpa using hh⟩
      · cases hg
theorem getState_ref {bs t r1 r:List UInt8} {h:Heap} {k:Nat} {n:Int} {s1:SB} {l:List Row} {bd:Bool} (ht:rdT bs = some (t,r1)) (hh:getHeap t = some h) (h1:numF (r1,false) = (n,s1))
    (h2:manyF rowF k s1 = (l,(r,bd))) (hk:(k:Int) ≤ n) (hx : ¬ (k:Int) < n ∨ 4 < k ∨ bd = true) :
    Dn bs = if bd = false∧r = []∧n = l.length∧Cy ⟨h,l⟩ = true then some ⟨h,l⟩ else none:=by
  have hl:l.length = k:=by have:=many_len (f:=rowF) k s1; rw [h2] at this; exact this
  split
  · rename_i hc
    obtain ⟨rfl,rfl,c3,c4⟩:=hc
    have g2:=(many_rds row_rds k).get (s:=s1) (by rw [h2])
    have g1:=num_rds.get (s:=(r1,false)) (by rw [h1]; exact g2.1)
    have f1:=g1.2; have f2:=g2.2
    rw [h1] at f1; rw [h2] at f2
    have hle:=rowsB_len (by omega) (stateB_t c4).2
    simp only at hle
    unfold Dn rdState
    simp only [ht,hh,f1]
    rw [if_neg (by omega)]
    have e:n.toNat = k:=by omega
    rw [e]
    simp only [f2]
    rw [if_neg (by rw [c4]; simp)]
  · rename_i hc
    cases hg:Dn bs with
    | none=>rfl
    | some H =>
      exfalso
      apply hc
      unfold Dn rdState at hg
      simp only [ht,hh] at hg
      split at hg
      · rename_i H' e
        split at e
        · cases e
        · rename_i x7 r7 e7
          split at e
          · cases e
          · rename_i hk7
            split at e
            · cases e
            · rename_i l8 r8 e8
              split at e
              · cases e
              · rename_i hh'
                simp only [Option.some.injEq,Prod.mk.injEq] at e
                obtain ⟨_,rfl⟩:=e
                have a7:=num_rds.ok _ _ _ e7; rw [h1] at a7; injection a7 with b7 c7; subst b7; subst c7
                have hpre:=rdL_pre (rd:=rdRow) (bs:=r7) (n:=n.toNat) (k:=k) (by omega) (by rw [e8]; rfl)
                obtain ⟨⟨l9,r9⟩,e9⟩:=Option.isSome_iff_exists.1 hpre
                have a8:=(many_rds row_rds k).ok _ _ _ e9
                rw [h2] at a8
                injection a8 with b8 c8
                injection c8 with c8 d8
                subst b8; subst c8; subst d8
                have ek:n.toNat = k:=by
                  rcases hx with hx | hx | hx
                  · omega
                  · omega
                  · cases hx
                rw [ek,e9] at e8
                injection e8 with e8
                injection e8 with b9 c9
                subst b9; subst c9
                refine ⟨Z,rfl,by omega,by simpa using hh'⟩
      · cases hg
theorem getState_no1 {bs:List UInt8} (ht:rdT bs = none):Dn bs = none:=by unfold Dn rdState; simp only [ht]
theorem getState_no2 {bs t r1:List UInt8} (ht:rdT bs = some (t,r1)) (hh:getHeap t = none):Dn bs = none:=by unfold Dn rdState; simp only [ht,hh]
end Go.Eng
namespace Go.Eng
open Go Go.RowKit
section
variable {P:Program} {ρ:Da} {w:World} {d:Option Nat} {x y z:Operand} {ty:TypeId} {ps:String} {af:Array Edge} {gu:Option (Nat × Bool)}
theorem Ex.slLH {t e:TypeId} {A:Option Addr} {n c i j k:Nat} {I J:Int} {v:Value} (ht:P.underlying t = some (.slice e)) (hs : ∀ w:World,(sizeOf e).run P w = .ok k w) (hx:ev ρ x = .slice A n c) (hy:ev ρ y = .int .i64 I) (hz:ev ρ z = .int .i64 J)
    (hI:I = (i:Int)) (hJ:J = (j:Int)) (hi:i ≤ j) (hj:j ≤ c) (hv : .slice (if c = i then A else A.map (·.add (i * k))) (j - i) (c - i) = v):Ex P ρ ⟨d,.slice t x (some y) (some z) none,ty,ps,af,gu⟩ w v w:=by
  subst hI; subst hJ; subst hv
  unfold Ex; refine Cc ?_
  simp [Instr.sliceAt,Instr.slice,Instr.sliceBounds,Instr.sliceBound,hx,hy,hz,asIntOf,run_underlying ht,hs,hi,hj]
end
theorem Ret.sure {P:Program} {f:FuncId} {args:List Value} {w:World} {b:Bool} (h:Ret P f args w (fun v w'=>v = .bool b∧w.grownBy w' none)) (hb:b = true):Ret P f args w (fun v w'=>v = .bool true∧w.grownBy w' none):=by
  subst hb; exact h
def RB (w:World) (B:Nat) (A:Option Addr) (n c:Nat) (bs:List UInt8):Prop:=Rd w B 1 A (Df bs)∧n = bs.length∧n ≤ c∧n ≤ 140737488351232
def RBM (w:World) (S:Nat → Prop) (A:Option Addr) (n c:Nat) (bs:List UInt8):Prop:=RdN w S 1 A (Df bs)∧n = bs.length∧n ≤ c∧n ≤ 140737488351232
theorem RdN.dropN {w:World} {S:Nat → Prop} {k n c:Nat} {A:Option Addr} {xss:List (List Value)} (h:RdN w S k A xss) (hn:n ≤ c) (hc:xss.length ≤ c):RdN w S k (dropA A c n k) (xss.drop n) :=
  ⟨h.rd.dropN hn hc,fun hne g hg=>h.out (fun e=>hne (by rw [e]; simp)) g (by rwa [dropA_bk] at hg)⟩
theorem RB.drop {w:World} {B n c k:Nat} {A:Option Addr} {bs:List UInt8} (h:RB w B A n c bs) (hk:k ≤ n):RB w B (dropA A c k 1) (n - k) (c - k) (bs.drop k):=by
  obtain ⟨h1,h2,h3,h4⟩:=h
  refine ⟨bcs_drop bs k ▸ h1.dropN (by omega) (by rw [Aq]; omega),by rw [List.length_drop]; omega,by omega,by omega⟩
theorem RBM.drop {w:World} {S:Nat → Prop} {n c k:Nat} {A:Option Addr} {bs:List UInt8} (h:RBM w S A n c bs) (hk:k ≤ n):RBM w S (dropA A c k 1) (n - k) (c - k) (bs.drop k):=by
  obtain ⟨h1,h2,h3,h4⟩:=h
  refine ⟨bcs_drop bs k ▸ h1.dropN (by omega) (by rw [Aq]; omega),by rw [List.length_drop]; omega,by omega,by omega⟩
structure InD (A:Option Addr) (n c:Nat) (bs:List UInt8) (A':Option Addr) (n' c':Nat) (bs':List UInt8):Prop where
  r : ∀ w B,RB w B A n c bs → RB w B A' n' c' bs'
  m : ∀ w S,RBM w S A n c bs → RBM w S A' n' c' bs'
theorem InD.refl (A:Option Addr) (n c:Nat) (bs:List UInt8):InD A n c bs A n c bs:=⟨fun _ _ h=>h,fun _ _ h=>h⟩
theorem InD.drop {A:Option Addr} {n c k:Nat} {bs:List UInt8} (hk:k ≤ n):InD A n c bs (dropA A c k 1) (n - k) (c - k) (bs.drop k):=⟨fun _ _ h=>h.drop hk,fun _ _ h=>h.drop hk⟩
theorem InD.trans {A A' A2 : Option Addr} {n c n' c' n2 c2 : Nat} {bs bs' bs2 : List UInt8} (h : InD A n c bs A' n' c' bs') (h2 : InD A' n' c' bs' A2 n2 c2 bs2) : InD A n c bs A2 n2 c2 bs2 := ⟨fun w B q => h2.r w B (h.r w B q), fun w S q => h2.m w S (h.m w S q)⟩
theorem manyF_go {α:Type} {f:SB → α × SB} {k:Nat} {s s1 s2:SB} {l:List α} {x:α} (h:manyF f k s = (l,s1)) (hx:f s1 = (x,s2)):manyF f (k + 1) s = (l ++ [x],s2):=by
  unfold manyF; rw [h]; simp only [hx]
theorem rdN_short {bs:List UInt8} (h:bs.length < 4):rdN bs = none:=by unfold rdN; rw [if_pos h]
theorem rdI_short {bs:List UInt8} (h:bs.length < 8):rdI bs = none:=by unfold rdI; rw [if_pos h]
theorem be_take0 (bs:List UInt8):be (bs.take 0) = 0:=rfl
theorem rdN_big {bs:List UInt8} {a:UInt8} (h:4 ≤ bs.length) (ha:bs[0]? = some a) (hb:127 < a.toNat):rdN bs = none:=by
  have e0:=be_take0 bs
  have e1:be (bs.take 1) = be (bs.take 0) * 256 + a.toNat:=be_take ha
  have e2:be (bs.take 2) = be (bs.take 1) * 256 + _:=be_take (List.getElem?_eq_getElem (show 1 < bs.length by omega))
  have e3:be (bs.take 3) = be (bs.take 2) * 256 + _:=be_take (List.getElem?_eq_getElem (show 2 < bs.length by omega))
  have e4:be (bs.take 4) = be (bs.take 3) * 256 + _:=be_take (List.getElem?_eq_getElem (show 3 < bs.length by omega))
  unfold rdN
  rw [if_neg (by omega),if_pos (by omega)]
theorem rdN_four {bs:List UInt8} {a b c d:UInt8} (h:4 ≤ bs.length) (ha:bs[0]? = some a) (hb:bs[1]? = some b) (hc:bs[2]? = some c) (hd:bs[3]? = some d) (hs : ¬ 127 < a.toNat) :
    rdN bs = some (((16777216 * a.toNat + 65536 * b.toNat + 256 * c.toNat + d.toNat:Nat):Int),bs.drop 4):=by
  have e0:=be_take0 bs
  have e1:be (bs.take 1) = be (bs.take 0) * 256 + a.toNat:=be_take ha
  have e2:be (bs.take 2) = be (bs.take 1) * 256 + b.toNat:=be_take hb
  have e3:be (bs.take 3) = be (bs.take 2) * 256 + c.toNat:=be_take hc
  have e4:be (bs.take 4) = be (bs.take 3) * 256 + d.toNat:=be_take hd
  have h1:=b.toNat_lt
  have h2:=c.toNat_lt
  have h3:=d.toNat_lt
  unfold rdN
  rw [if_neg (by omega),if_neg (by omega),show be (bs.take 4) = 16777216 * a.toNat + 65536 * b.toNat + 256 * c.toNat + d.toNat by omega]
def ObjA (ro:RObj) (o:Obj):Atom where
  ok S w:=(ro.handle = o.handle∧ro.blk = o.blk∧ro.words.n ≤ 140737488351232∧ro.links.n ≤ 140737488351232)∧(Ai 3 1 ro.words.a ro.words.n ro.words.c (ics o.words)).ok S w∧(Ai 3 1 ro.links.a ro.links.n ro.links.c (ics o.links)).ok S w
  mono h h2:=⟨h2.1,(Ai 3 1 ro.words.a ro.words.n ro.words.c (ics o.words)).mono h h2.2.1,(Ai 3 1 ro.links.a ro.links.n ro.links.c (ics o.links)).mono h h2.2.2⟩
  st ch hT h:=⟨h.1,(Ai 3 1 ro.words.a ro.words.n ro.words.c (ics o.words)).st ch hT h.2.1,(Ai 3 1 ro.links.a ro.links.n ro.links.c (ics o.links)).st ch hT h.2.2⟩
theorem ObjA.r {ro:RObj} {o:Obj} {S:Nat → Prop} {w:World} (h:(ObjA ro o).ok S w):ObjR w w.heap.size ro o:=by
  obtain ⟨⟨h1,h2,h3,h4⟩,h5,h6⟩:=h
  have l5:=h5.1.len
  have l6:=h6.1.len
  rw [Au] at l5 l6
  exact ⟨h1,h2,l5.symm,l6.symm,h3,h4,h5.1.rd,h6.1.rd⟩
def ObjsA (ros:List RObj) (os:List Obj):Atom where
  ok S w:=ros.length = os.length ∧ ∀ (i:Nat) (ro:RObj) (o:Obj),ros[i]? = some ro → os[i]? = some o → (ObjA ro o).ok S w
  mono h h2:=⟨h2.1,fun i ro o hr ho=>(ObjA ro o).mono h (h2.2 i ro o hr ho)⟩
  st ch hT h:=⟨h.1,fun i ro o hr ho=>(ObjA ro o).st ch hT (h.2 i ro o hr ho)⟩
def PairA (A B:Atom):Atom where
  ok S w := ∃ S1 S2:Nat → Prop,A.ok S1 w∧B.ok S2 w∧(∀ b,S1 b → S b)∧(∀ b,S2 b → S b)
  mono h:=fun ⟨S1,S2,h1,h2,h3,h4⟩=>⟨S1,S2,h1,h2,fun b hb=>h b (h3 b hb),fun b hb=>h b (h4 b hb)⟩
  st ch hT:=fun ⟨S1,S2,h1,h2,h3,h4⟩=>⟨_,_,A.st ch (fun b hb=>hT b (h3 b hb)) h1,B.st ch (fun b hb=>hT b (h4 b hb)) h2,fun b hb=>⟨h3 b hb.1,hb.2⟩,fun b hb=>⟨h4 b hb.1,hb.2⟩⟩
section
variable {w w' w0:World} {l m:List Atom} {i j:Nat} {ros:List RObj} {os:List Obj}
theorem Sp.obNil (h:Sp l w):Sp (ObjsA [] [] :: l) w:=h.new1 (S:=fun _=>False) (Bs _ _) ⟨rfl,fun i ro o hr=>by simp at hr⟩ (fun _ hk=>hk.elim)
theorem Sp.merge3 {A B C D:Atom} (h:Sp (A :: B :: C :: l) w) (hw : ∀ S T U,A.ok S w → B.ok T w → C.ok U w → D.ok (fun b=>(S b ∨ T b) ∨ U b) w):Sp (D :: l) w :=
  Sp.merge (A:=PairA A B) (Sp.merge (C:=PairA A B) h fun S T h1 h2=>⟨S,T,h1,h2,fun _ hb=>.inl hb,fun _ hb=>.inr hb⟩) fun S T ⟨S1,S2,h1,h2,h3,h4⟩ h5 =>
    D.mono (fun b hb=>hb.elim (fun h=>h.elim (fun h=>.inl (h3 b h)) (fun h=>.inl (h4 b h))) .inr) (hw S1 S2 T h1 h2 h5)
theorem Sp.obSnoc {o:Obj} {Aw Al:Option Addr} {nw cw nl cl:Nat} (h:Sp (ObjsA ros os :: Ai 3 1 Aw nw cw (ics o.words) :: Ai 3 1 Al nl cl (ics o.links) :: l) w) (hw:nw ≤ 140737488351232) (hl:nl ≤ 140737488351232) :
    Sp (ObjsA (ros ++ [⟨o.handle,o.blk,⟨Aw,nw,cw⟩,⟨Al,nl,cl⟩⟩]) (os ++ [o]) :: l) w:=by
  refine h.merge3 fun S T U q1 q2 q3=>⟨by rw [List.length_append,List.length_append,q1.1]; rfl,fun i ro ob hr ho=>?_⟩
  by_cases hi:i < ros.length
  · rw [List.getElem?_append_left hi] at hr
    rw [List.getElem?_append_left (by rw [← q1.1]; exact hi)] at ho
    exact (ObjA ro ob).mono (fun b hb=>.inl (.inl hb)) (q1.2 i ro ob hr ho)
  · rw [List.getElem?_append_right (by omega)] at hr
    rw [List.getElem?_append_right (by rw [← q1.1]; omega)] at ho
    have e:i - ros.length = 0:=by have:=lt_len hr; simp at this; omega
    rw [e] at hr
    rw [← q1.1,e] at ho
    simp at hr ho
    subst hr; subst ho
    exact ⟨⟨Z,rfl,hw,hl⟩,(Ai 3 1 Aw nw cw (ics o.words)).mono (fun b hb=>.inl (.inr hb)) q2,(Ai 3 1 Al nl cl (ics o.links)).mono (fun b hb=>.inr hb) q3⟩
theorem Sp.obR (h:Sp l w) (hi:l[i]? = some (ObjsA ros os)):ros.length = os.length ∧ ∀ (i:Nat) (ro:RObj) (o:Obj),ros[i]? = some ro → os[i]? = some o → ObjR w w.heap.size ro o:=by
  obtain ⟨S,h1,h2⟩:=h.get hi
  exact ⟨h1,fun i ro o hr ho=>ObjA.r (h2 i ro o hr ho)⟩
end
end Go.Eng
namespace Go.Proofs.YtfokljnhllflbaaGreat
open Go Go.Eng Go.RowKit Go.Proofs.Tryz
set_option maxHeartbeats 400000 in
set_option maxRecDepth 20000 in
theorem sz_ (w:World) (o:Int) (h0:0 ≤ o) (h8:o ≤ 8):Ret prog 229 [(J o)] w (fun v w'=>v = .int .i64 (Af o)∧w.grownBy w' none):=by
  have H0:Sp [Bd w Bl] w:=Bv w
  refine aP func229 Z Z Z ?_
  refine cT (za (J 0) Z (cS (cT (za (J 1) Z (cS (aD (cT (za (J 0) Z (cS (aG ?_))))))))))
  refine aK (fun t=>(Nat.ble 3 t && Nat.ble t 11)) (fun nL ρ wl => ∃ (i:Nat),ρ 3 = (J (Af ((i:Nat):Int)))∧ρ 4 = (J (i:Int))∧nL = o.toNat - i∧Sp [Bd w Bl] wl∧(i:Int) ≤ o) (o.toNat) ?aa0 ?bb0
  case aa0 =>
   exact ⟨0,rfl,rfl,rfl,H0,by omega⟩
  case bb0 =>
   rintro n2 ρ0 w1 ho3 ⟨i,hs0_3,hs0_4,hn0,H4,hi⟩
   obtain ⟨j0,rfl⟩:=ho3.shape2 hs0_3 hs0_4
   clear ho3 hs0_3 hs0_4
   subst hn0
   have z5:=(H4.fix (i:=0) rfl).size
   refine aD (cT (zm (J (i:Int)) Z (zm (J o) Z ?_)))
   refine zc (((i:Int):Int) < (o:Int)) Z (fun r hr=>bL Z Z hr) (fun h6=>?_) (fun h6=>?_)
   ·refine cS (aE Z (aA (aQ (aD (aG (aL (zm (J (Af ((i:Nat):Int))) Z (zg Z (bK (r:=Af ((i + 1:Nat):Int)) Z Z (by have h1:=wordsI_half (o:=((i + 1:Nat):Int)) (by omega) (by omega); rw [show ((i + 1:Nat):Int) - 1 = (i:Int) by omega] at h1; have h2:=Bc (i:Int); rw [Dl (by omega) (by omega)]; omega)) (za (J (Af ((i + 1:Nat):Int))) Z (aM (inB.n (aQ (aL (zm (J (i:Int)) Z (zg Z (bI (r:=(i:Int) + 1) Z Z (Dl (by omega) (by omega))) (za (J ((i:Int) + 1)) Z (cS ?_)))))))))))))))))
    refine ⟨(by repeat (first | exact aJ _ _ | exact aH _ _ | refine aI ?_ Z _)),_,?_,i + 1,rfl,rfl,rfl,H4,by omega⟩
    omega
   ·refine cS (aF Z (aC (aS (aS (Bo (aQ (cT (zm (J (Af ((i:Nat):Int))) Z (za (J (Af ((i:Nat):Int))) Z (cS (aB (aO (v:=(J (Af ((i:Nat):Int)))) (Ba Z Z) ?_))))))))))))
    have hio:(i:Int) = o:=by omega
    exact ⟨by rw [hio],(H4.fix (i:=0) Z)⟩
set_option maxHeartbeats 400000 in
set_option maxRecDepth 20000 in
theorem reg_ (w:World) (o:Int):Ret prog 235 [(J o)] w (fun v w'=>v = .bool (Az o 3 8)∧w.grownBy w' none):=by
  have H0:Sp [Bd w Bl] w:=Bv w
  refine aP func235 Z Z Z ?_
  refine cT (za bF Z (cS (cT (zm (J o) Z ?_))))
  refine zc ((3:Int) ≤ (o:Int)) Z (fun r hr=>bO Z Z hr) (fun h1=>?_) (fun h1=>?_)
  ·refine zm bT Z (zm (J o) Z ?_)
   refine zc ((o:Int) ≤ (8:Int)) Z (fun r hr=>bM Z Z hr) (fun h2=>?_) (fun h2=>?_)
   ·refine zT bT Z (za bT Z (cS (aB (aO (v:=bT) (Ba Z Z) ?_))))
    exact ⟨At (by unfold Az; first | (simp [h1,h2]; done) | (simp [h1,h2]; omega) | (simp [h1,h2]; intros; omega)),(H0.fix (i:=0) Z)⟩
   ·refine zT bF Z (za bF Z (cS (aB (aO (v:=bF) (Ba Z Z) ?_))))
    exact ⟨At (by unfold Az; first | (simp [h1,h2]; done) | (simp [h1,h2]; omega) | (simp [h1,h2]; intros; omega)),(H0.fix (i:=0) Z)⟩
  ·refine zm bF Z (zo Z (zo Z (zF bF Z (za bF Z (cS (aB (aO (v:=bF) (Ba Z Z) ?_)))))))
   exact ⟨At (by unfold Az; first | (simp [h1]; done) | (simp [h1]; omega) | (simp [h1]; intros; omega)),(H0.fix (i:=0) Z)⟩
set_option maxHeartbeats 400000 in
set_option maxRecDepth 20000 in
theorem meet_ (w:World) (a b:Blk) (ha : -4611686018427387904 ≤ a.at_∧a.at_ ≤ 4611686018427387904) (hb : -4611686018427387904 ≤ b.at_∧b.at_ ≤ 4611686018427387904) (hao:0 ≤ a.ord∧a.ord ≤ 8) (hbo:0 ≤ b.ord∧b.ord ≤ 8):Ret prog 227 [(.agg (a.cells).toArray),(.agg (b.cells).toArray)] w (fun v w'=>v = .bool (meetB a b)∧w.grownBy w' none):=by
  have H0:Sp [Bd w Bl] w:=Bv w
  refine aP func227 Z Z Z ?_
  refine cT (bH (cs:=a.cells) Z Z Z ?_)
  intro w1 b2 hb3 hz4 g5 o6
  have H7:=H0.newB g5 o6 (by omega)
  have z8:=g5.size
  refine bH (cs:=b.cells) Z Z Z ?_
  intro w9 b10 hb11 hz12 g13 o14
  have H15:=H7.newB g13 o14 (by omega)
  have z16:=g13.size
  refine za bF Z (cS (aD (cN (fun wq=>Sp [Aa b10 133 b.cells,Aa b2 133 a.cells,Bd w Bl] wq) Tryz.mixed Z ?_)))
  intro w17 g18
  have H19:=H15.grow g18
  have z20:=g18.size
  refine zr 0 1 Z (by kernel_rfl) H19 (fun wq hq=>Cs (b:=⟨b2,0,none⟩) Z Z) (zr 2 5 Z (by kernel_rfl) H19 (fun wq hq=>Cs (b:=⟨b10,0,none⟩) Z Z) (zr 4 21 Z (by kernel_rfl) H19 (fun wq hq=>Cg (b:=⟨b10,1,none⟩) Z Z) (zr 1 23 Z (by kernel_rfl) H19 (fun wq hq=>bW Z (Ax Bw (Ob.cell (v:=(J a.at_)) (hq.ob (i:=1) Z) Z))) (zr 3 31 Z (by kernel_rfl) H19 (fun wq hq=>bW Z (Ax Bw (Ob.cell (v:=(J b.at_)) (hq.ob (i:=0) Z) Z))) (zr 5 63 Z (by kernel_rfl) H19 (fun wq hq=>bW Z (Ax Bw (Ob.cell (v:=(J b.ord)) (hq.ob (i:=0) Z) Z))) (cO (i:=6) (by kernel_rfl) ?_))))))
  refine ⟨_,127,rfl,by kernel_rfl,?_⟩
  have hz21:=Bc b.ord
  have hz22:=Bt (o:=b.ord) (by omega) (by omega)
  refine aU call229 (sz_ _ b.ord (by omega) (by omega)) Z Z Z ?_
  rintro _ w23 ⟨rfl,g24⟩
  have H25:=H19.grow g24
  have z26:=g24.size
  refine aM ?_
  refine ⟨H25,?_⟩
  refine zr 7 255 Z (by kernel_rfl) H25 (fun wq hq=>bI (r:=b.at_ + (Af b.ord)) Z Z (Dl (by omega) (by omega))) ?_
  refine zb 8 511 ((a.at_:Int) < (b.at_ + (Af b.ord):Int)) Z (by kernel_rfl) H25 (fun r hr wq hq=>bL Z Z hr) (fun h27=>?_) (fun h27=>?_)
  ·refine zr 9 1023 Z (by kernel_rfl) H25 (fun wq hq=>aX (v:=bT) Z) (zr 10 2047 Z (by kernel_rfl) H25 (fun wq hq=>Cs (b:=⟨b10,0,none⟩) Z Z) (zr 12 6143 Z (by kernel_rfl) H25 (fun wq hq=>Cs (b:=⟨b2,0,none⟩) Z Z) (zr 14 22527 Z (by kernel_rfl) H25 (fun wq hq=>Cg (b:=⟨b2,1,none⟩) Z Z) (zr 11 24575 Z (by kernel_rfl) H25 (fun wq hq=>bW Z (Ax Bw (Ob.cell (v:=(J b.at_)) (hq.ob (i:=0) Z) Z))) (zr 13 32767 Z (by kernel_rfl) H25 (fun wq hq=>bW Z (Ax Bw (Ob.cell (v:=(J a.at_)) (hq.ob (i:=1) Z) Z))) (zr 15 65535 Z (by kernel_rfl) H25 (fun wq hq=>bW Z (Ax Bw (Ob.cell (v:=(J a.ord)) (hq.ob (i:=1) Z) Z))) (cO (i:=16) (by kernel_rfl) ?_)))))))
   refine ⟨_,131071,rfl,by kernel_rfl,?_⟩
   have hz28:=Bc a.ord
   have hz29:=Bt (o:=a.ord) (by omega) (by omega)
   refine aU call229 (sz_ _ a.ord (by omega) (by omega)) Z Z Z ?_
   rintro _ w30 ⟨rfl,g31⟩
   have H32:=H25.grow g31
   have z33:=g31.size
   refine aM ?_
   refine ⟨H32,?_⟩
   refine zr 17 262143 Z (by kernel_rfl) H32 (fun wq hq=>bI (r:=a.at_ + (Af a.ord)) Z Z (Dl (by omega) (by omega))) ?_
   refine zb 18 524287 ((b.at_:Int) < (a.at_ + (Af a.ord):Int)) Z (by kernel_rfl) H32 (fun r hr wq hq=>bL Z Z hr) (fun h34=>?_) (fun h34=>?_)
   ·refine zr 19 1048575 Z (by kernel_rfl) H32 (fun wq hq=>aZ (v:=bT) Z Z) (zr 20 2097151 Z (by kernel_rfl) H32 (fun wq hq=>aY (v:=bT) Z) (cQ (by kernel_rfl) (aQ (aB (aO (v:=bT) (Ba Z Z) ?_)))))
    exact ⟨At (by unfold meetB; first | (simp [h27,h34]; done) | (simp [h27,h34]; omega) | (simp [h27,h34]; intros; omega)),(H32.fix (i:=2) Z)⟩
   ·refine zr 19 1048575 Z (by kernel_rfl) H32 (fun wq hq=>aZ (v:=bF) Z Z) (zr 20 2097151 Z (by kernel_rfl) H32 (fun wq hq=>aY (v:=bF) Z) (cQ (by kernel_rfl) (aQ (aB (aO (v:=bF) (Ba Z Z) ?_)))))
    exact ⟨At (by unfold meetB; first | (simp [h27,h34]; done) | (simp [h27,h34]; omega) | (simp [h27,h34]; intros; omega)),(H32.fix (i:=2) Z)⟩
  ·refine zr 9 1023 Z (by kernel_rfl) H25 (fun wq hq=>aX (v:=bF) Z) (zq 10 2047 Z (by kernel_rfl) H25 (zq 12 6143 Z (by kernel_rfl) H25 (zq 14 22527 Z (by kernel_rfl) H25 (zq 11 24575 Z (by kernel_rfl) H25 (zq 13 32767 Z (by kernel_rfl) H25 (zq 15 65535 Z (by kernel_rfl) H25 (zq 16 131071 Z (by kernel_rfl) H25 (zq 17 262143 Z (by kernel_rfl) H25 (zq 18 524287 Z (by kernel_rfl) H25 (zr 19 1048575 Z (by kernel_rfl) H25 (fun wq hq=>bA (v:=bF) Z Z) ?_))))))))))
   refine zr 20 2097151 Z (by kernel_rfl) H25 (fun wq hq=>aY (v:=bF) Z) (cQ (by kernel_rfl) (aQ (aB (aO (v:=bF) (Ba Z Z) ?_))))
   exact ⟨At (by unfold meetB; first | (simp [h27]; done) | (simp [h27]; omega) | (simp [h27]; intros; omega)),(H25.fix (i:=2) Z)⟩
set_option maxHeartbeats 400000 in
set_option maxRecDepth 20000 in
theorem twinRf_ (w:World) (b:Blk) (hb : -4611686018427387904 ≤ b.at_∧b.at_ ≤ 4611686018427387904) (hbo:0 ≤ b.ord∧b.ord ≤ 8):Ret prog 262 [(.agg (b.cells).toArray)] w (fun v w'=>v = .agg (twinR b).cells.toArray∧w.grownBy w' none):=by
  have H0:Sp [Bd w Bl] w:=Bv w
  refine aP func262 Z Z Z ?_
  refine cT (bH (cs:=b.cells) Z Z Z ?_)
  intro w1 b2 hb3 hz4 g5 o6
  have H7:=H0.newB g5 o6 (by omega)
  have z8:=g5.size
  refine bG (cs:=[(J 0),(J 0)]) zeroValue133 Z Z Z ?_
  intro w9 b10 hb11 hz12 g13 o14
  have H15:=H7.newB g13 o14 (by omega)
  have z16:=g13.size
  refine cS (cT (zg Z (Cg (b:=⟨b2,1,none⟩) Z Z) (zl (J b.ord) Bw (H15.ob (i:=1) Z) Z ?_)))
  have hz17:=Bc b.ord
  have hz18:=Bt (o:=b.ord) (by omega) (by omega)
  refine aU call229 (sz_ _ b.ord (by omega) (by omega)) Z Z Z ?_
  rintro _ w19 ⟨rfl,g20⟩
  have H21:=H15.grow g20
  have z22:=g20.size
  refine za (J (Af b.ord)) Z (cS (aD (cT (zg Z (Cs (b:=⟨b2,0,none⟩) Z Z) (zl (J b.at_) Bw (H21.ob (i:=1) Z) Z (zm (J (Af b.ord)) Z (zg Z (bK (r:=2 * (Af b.ord)) Z Z (Dl (by omega) (by omega))) (zg Z (Ex.rem (r:=(b.at_:Int).tmod (2 * (Af b.ord))) Z Z (by omega) Z) ?_))))))))
  refine zc (((b.at_:Int).tmod (2 * (Af b.ord)):Int) = (0:Int)) Z (fun r hr=>bP Z Z hr) (fun h23=>?_) (fun h23=>?_)
  ·refine cS (aE Z (cT (zg Z (Cs (b:=⟨b2,0,none⟩) Z Z) (zl (J b.at_) Bw (H21.ob (i:=1) Z) Z (zm (J (Af b.ord)) Z (zg Z (bI (r:=b.at_ + (Af b.ord)) Z Z (Dl (by omega) (by omega))) (zg Z (Cg (b:=⟨b2,1,none⟩) Z Z) (zl (J b.ord) Bw (H21.ob (i:=1) Z) Z (zg Z (bY (cs:=[(J (b.at_ + (Af b.ord))),(J b.ord)]) bd133 Z) (bE (vs:=[(J (b.at_ + (Af b.ord))),(J b.ord)]) (cs':=[(J (b.at_ + (Af b.ord))),(J b.ord)]) sizeOf133 (H21.ob (i:=0) Z) Z Z Z Z Z Z ?_))))))))))
   intro w24 hz25 g26 o27
   have H28:Sp [Aa b10 133 [(J (b.at_ + (Af b.ord))),(J b.ord)],Aa b2 133 b.cells,Bd w Bl] w24:=H21.setB (i:=0) rfl g26 o27 rfl
   have z29:=g26.size
   refine cS (aB (aR (aO (v:=(.agg ([(J (b.at_ + (Af b.ord))),(J b.ord)]).toArray)) (resv1 Z (cA Z (Aj (cs:=[(J (b.at_ + (Af b.ord))),(J b.ord)]) wh133 (H28.ob (i:=0) Z).cl))) ?_)))
   exact ⟨by unfold twinR; rw [if_pos h23]; rfl,(H28.fix (i:=2) Z)⟩
  ·refine cS (aF Z (aA (aQ (cT (zg Z (Cs (b:=⟨b2,0,none⟩) Z Z) (zl (J b.at_) Bw (H21.ob (i:=1) Z) Z (zm (J (Af b.ord)) Z (zg Z (bJ (r:=b.at_ - (Af b.ord)) Z Z (Dl (by omega) (by omega))) (zg Z (Cg (b:=⟨b2,1,none⟩) Z Z) (zl (J b.ord) Bw (H21.ob (i:=1) Z) Z (zg Z (bY (cs:=[(J (b.at_ - (Af b.ord))),(J b.ord)]) bd133 Z) (bE (vs:=[(J (b.at_ - (Af b.ord))),(J b.ord)]) (cs':=[(J (b.at_ - (Af b.ord))),(J b.ord)]) sizeOf133 (H21.ob (i:=0) Z) Z Z Z Z Z Z ?_))))))))))))
   intro w30 hz31 g32 o33
   have H34:Sp [Aa b10 133 [(J (b.at_ - (Af b.ord))),(J b.ord)],Aa b2 133 b.cells,Bd w Bl] w30:=H21.setB (i:=0) rfl g32 o33 rfl
   have z35:=g32.size
   refine cS (aB (aO (v:=(.agg ([(J (b.at_ - (Af b.ord))),(J b.ord)]).toArray)) (resv1 Z (cA Z (Aj (cs:=[(J (b.at_ - (Af b.ord))),(J b.ord)]) wh133 (H34.ob (i:=0) Z).cl))) ?_))
   exact ⟨by unfold twinR; rw [if_neg h23]; rfl,(H34.fix (i:=2) Z)⟩
set_option maxHeartbeats 1000000 in
set_option maxRecDepth 20000 in
theorem mayR_ (w:World) (o:Int) (b:Blk) (h0:0 ≤ o) (h8:o ≤ 8):Ret prog 224 [(J o),(.agg (b.cells).toArray)] w (fun v w'=>v = .bool (mayR o b)∧w.grownBy w' none):=by
  have H0:Sp [Bd w Bl] w:=Bv w
  refine aP func224 Z Z Z ?_
  refine cT (bH (cs:=b.cells) Z Z Z ?_)
  intro w1 b2 hb3 hz4 g5 o6
  have H7:=H0.newB g5 o6 (by omega)
  have z8:=g5.size
  refine za bF Z (cS (aD (aD (cN (fun wq=>Sp [Aa b2 133 b.cells,Bd w Bl] wq) Tryz.mixed Z ?_))))
  intro w9 g10
  have H11:=H7.grow g10
  have z12:=g10.size
  refine zr 0 1 Z (by kernel_rfl) H11 (fun wq hq=>Cg (b:=⟨b2,1,none⟩) Z Z) (zr 1 3 Z (by kernel_rfl) H11 (fun wq hq=>bW Z (Ax Bw (Ob.cell (v:=(J b.ord)) (hq.ob (i:=0) Z) Z))) ?_)
  refine zb 2 7 ((b.ord:Int) < (0:Int)) Z (by kernel_rfl) H11 (fun r hr wq hq=>bL Z Z hr) (fun h13=>?_) (fun h13=>?_)
  ·refine zr 3 15 Z (by kernel_rfl) H11 (fun wq hq=>aX (v:=bT) Z) (zq 4 31 Z (by kernel_rfl) H11 (zq 6 95 Z (by kernel_rfl) H11 (zq 5 127 Z (by kernel_rfl) H11 (zq 7 255 Z (by kernel_rfl) H11 (zr 8 511 Z (by kernel_rfl) H11 (fun wq hq=>aZ (v:=bT) Z Z) (zr 9 1023 Z (by kernel_rfl) H11 (fun wq hq=>aX (v:=bT) Z) (zq 10 2047 Z (by kernel_rfl) H11 (zq 11 4095 Z (by kernel_rfl) H11 (zq 12 8191 Z (by kernel_rfl) H11 (zr 13 16383 Z (by kernel_rfl) H11 (fun wq hq=>aZ (v:=bT) Z Z) ?_))))))))))
   refine zr 14 32767 Z (by kernel_rfl) H11 (fun wq hq=>aX (v:=bT) Z) (zq 15 65535 Z (by kernel_rfl) H11 (zq 17 196607 Z (by kernel_rfl) H11 (zq 18 458751 Z (by kernel_rfl) H11 (zq 19 983039 Z (by kernel_rfl) H11 (zq 16 1048575 Z (by kernel_rfl) H11 (zq 20 2097151 Z (by kernel_rfl) H11 (zq 21 4194303 Z (by kernel_rfl) H11 (zq 22 8388607 Z (by kernel_rfl) H11 (zq 23 16777215 Z (by kernel_rfl) H11 (zr 24 33554431 Z (by kernel_rfl) H11 (fun wq hq=>aZ (v:=bT) Z Z) ?_))))))))))
   refine cQ (by kernel_rfl) (aQ (aE Z (cT (za bF Z (cS (aB (aR (aO (v:=bF) (Ba Z Z) ?_))))))))
   exact ⟨At (by unfold mayR; first | (simp [h13]; done) | (simp [h13]; omega) | (simp [h13]; intros; omega)),(H11.fix (i:=1) Z)⟩
  ·refine zr 3 15 Z (by kernel_rfl) H11 (fun wq hq=>aX (v:=bF) Z) (zr 4 31 Z (by kernel_rfl) H11 (fun wq hq=>Cg (b:=⟨b2,1,none⟩) Z Z) (zr 6 95 Z (by kernel_rfl) H11 (fun wq hq=>aX (v:=(J o)) Z) (zr 5 127 Z (by kernel_rfl) H11 (fun wq hq=>bW Z (Ax Bw (Ob.cell (v:=(J b.ord)) (hq.ob (i:=0) Z) Z))) ?_)))
   refine zb 7 255 ((o:Int) < (b.ord:Int)) Z (by kernel_rfl) H11 (fun r hr wq hq=>bN Z Z hr) (fun h14=>?_) (fun h14=>?_)
   ·refine zr 8 511 Z (by kernel_rfl) H11 (fun wq hq=>bA (v:=bT) Z Z) (zr 9 1023 Z (by kernel_rfl) H11 (fun wq hq=>aX (v:=bT) Z) (zq 10 2047 Z (by kernel_rfl) H11 (zq 11 4095 Z (by kernel_rfl) H11 (zq 12 8191 Z (by kernel_rfl) H11 (zr 13 16383 Z (by kernel_rfl) H11 (fun wq hq=>aZ (v:=bT) Z Z) (zr 14 32767 Z (by kernel_rfl) H11 (fun wq hq=>aX (v:=bT) Z) (zq 15 65535 Z (by kernel_rfl) H11 (zq 17 196607 Z (by kernel_rfl) H11 (zq 18 458751 Z (by kernel_rfl) H11 (zq 19 983039 Z (by kernel_rfl) H11 ?_))))))))))
    refine zq 16 1048575 Z (by kernel_rfl) H11 (zq 20 2097151 Z (by kernel_rfl) H11 (zq 21 4194303 Z (by kernel_rfl) H11 (zq 22 8388607 Z (by kernel_rfl) H11 (zq 23 16777215 Z (by kernel_rfl) H11 (zr 24 33554431 Z (by kernel_rfl) H11 (fun wq hq=>aZ (v:=bT) Z Z) (cQ (by kernel_rfl) (aQ (aE Z (cT (za bF Z (cS (aB (aR ?_)))))))))))))
    refine aO (v:=bF) (Ba Z Z) ?_
    exact ⟨At (by unfold mayR; first | (simp [h13,h14]; done) | (simp [h13,h14]; omega) | (simp [h13,h14]; intros; omega)),(H11.fix (i:=1) Z)⟩
   ·refine zr 8 511 Z (by kernel_rfl) H11 (fun wq hq=>bA (v:=bF) Z Z) (zr 9 1023 Z (by kernel_rfl) H11 (fun wq hq=>aX (v:=bF) Z) (zr 10 2047 Z (by kernel_rfl) H11 (fun wq hq=>Cs (b:=⟨b2,0,none⟩) Z Z) (zr 11 4095 Z (by kernel_rfl) H11 (fun wq hq=>bW Z (Ax Bw (Ob.cell (v:=(J b.at_)) (hq.ob (i:=0) Z) Z))) ?_)))
    refine zb 12 8191 ((b.at_:Int) < (0:Int)) Z (by kernel_rfl) H11 (fun r hr wq hq=>bL Z Z hr) (fun h15=>?_) (fun h15=>?_)
    ·refine zr 13 16383 Z (by kernel_rfl) H11 (fun wq hq=>bA (v:=bT) Z Z) (zr 14 32767 Z (by kernel_rfl) H11 (fun wq hq=>aX (v:=bT) Z) (zq 15 65535 Z (by kernel_rfl) H11 (zq 17 196607 Z (by kernel_rfl) H11 (zq 18 458751 Z (by kernel_rfl) H11 (zq 19 983039 Z (by kernel_rfl) H11 (zq 16 1048575 Z (by kernel_rfl) H11 (zq 20 2097151 Z (by kernel_rfl) H11 (zq 21 4194303 Z (by kernel_rfl) H11 (zq 22 8388607 Z (by kernel_rfl) H11 (zq 23 16777215 Z (by kernel_rfl) H11 ?_))))))))))
     refine zr 24 33554431 Z (by kernel_rfl) H11 (fun wq hq=>aZ (v:=bT) Z Z) (cQ (by kernel_rfl) (aQ (aE Z (cT (za bF Z (cS (aB (aR (aO (v:=bF) (Ba Z Z) ?_)))))))))
     exact ⟨At (by unfold mayR; first | (simp [h13,h14,h15]; done) | (simp [h13,h14,h15]; omega) | (simp [h13,h14,h15]; intros; omega)),(H11.fix (i:=1) Z)⟩
    ·refine zr 13 16383 Z (by kernel_rfl) H11 (fun wq hq=>bA (v:=bF) Z Z) (zr 14 32767 Z (by kernel_rfl) H11 (fun wq hq=>aX (v:=bF) Z) (zr 15 65535 Z (by kernel_rfl) H11 (fun wq hq=>Cs (b:=⟨b2,0,none⟩) Z Z) (zr 17 196607 Z (by kernel_rfl) H11 (fun wq hq=>aX (v:=(J o)) Z) (zr 19 720895 Z (by kernel_rfl) H11 (fun wq hq=>Cg (b:=⟨b2,1,none⟩) Z Z) (zr 16 786431 Z (by kernel_rfl) H11 (fun wq hq=>bW Z (Ax Bw (Ob.cell (v:=(J b.at_)) (hq.ob (i:=0) Z) Z))) (zr 20 1835007 Z (by kernel_rfl) H11 (fun wq hq=>bW Z (Ax Bw (Ob.cell (v:=(J b.ord)) (hq.ob (i:=0) Z) Z))) (cO (i:=18) (by kernel_rfl) ?_)))))))
     refine ⟨_,2097151,rfl,by kernel_rfl,?_⟩
     have hz16:=Bc o
     have hz17:=Bt (o:=o) (by omega) (by omega)
     refine aU call229 (sz_ _ o (by omega) (by omega)) Z Z Z ?_
     rintro _ w18 ⟨rfl,g19⟩
     have H20:=H11.grow g19
     have z21:=g19.size
     refine aM ?_
     refine ⟨H20,?_⟩
     refine cO (i:=21) (by kernel_rfl) ?_
     refine ⟨_,4194303,rfl,by kernel_rfl,?_⟩
     have hz22:=Bc b.ord
     have hz23:=Bt (o:=b.ord) (by omega) (by omega)
     refine aU call229 (sz_ _ b.ord (by omega) (by omega)) Z Z Z ?_
     rintro _ w24 ⟨rfl,g25⟩
     have H26:=H20.grow g25
     have z27:=g25.size
     refine aM ?_
     refine ⟨H26,?_⟩
     refine zr 22 8388607 Z (by kernel_rfl) H26 (fun wq hq=>bJ (r:=(Af o) - (Af b.ord)) Z Z (Dl (by omega) (by omega))) ?_
     refine zb 23 16777215 (((Af o) - (Af b.ord):Int) < (b.at_:Int)) Z (by kernel_rfl) H26 (fun r hr wq hq=>bN Z Z hr) (fun h28=>?_) (fun h28=>?_)
     ·refine zr 24 33554431 Z (by kernel_rfl) H26 (fun wq hq=>bA (v:=bT) Z Z) (cQ (by kernel_rfl) (aQ (aE Z (cT (za bF Z (cS (aB (aR (aO (v:=bF) (Ba Z Z) ?_)))))))))
      exact ⟨At (by unfold mayR; first | (simp [h13,h14,h15,h28]; done) | (simp [h13,h14,h15,h28]; omega) | (simp [h13,h14,h15,h28]; intros; omega)),(H26.fix (i:=1) Z)⟩
     ·refine zr 24 33554431 Z (by kernel_rfl) H26 (fun wq hq=>bA (v:=bF) Z Z) (cQ (by kernel_rfl) (aQ (aF Z (aA (aQ (aD (cN (fun wq=>Sp [Aa b2 133 b.cells,Bd w Bl] wq) Tryz.mixed Z ?_)))))))
      intro w29 g30
      have H31:=H26.grow g30
      have z32:=g30.size
      refine zr 0 1 Z (by kernel_rfl) H31 (fun wq hq=>Cs (b:=⟨b2,0,none⟩) Z Z) (zr 2 5 Z (by kernel_rfl) H31 (fun wq hq=>Cg (b:=⟨b2,1,none⟩) Z Z) (zr 1 7 Z (by kernel_rfl) H31 (fun wq hq=>bW Z (Ax Bw (Ob.cell (v:=(J b.at_)) (hq.ob (i:=0) Z) Z))) (zr 3 15 Z (by kernel_rfl) H31 (fun wq hq=>bW Z (Ax Bw (Ob.cell (v:=(J b.ord)) (hq.ob (i:=0) Z) Z))) (cO (i:=4) (by kernel_rfl) ?_))))
      refine ⟨_,31,rfl,by kernel_rfl,?_⟩
      have hz33:=Bc b.ord
      have hz34:=Bt (o:=b.ord) (by omega) (by omega)
      refine aU call229 (sz_ _ b.ord (by omega) (by omega)) Z Z Z ?_
      rintro _ w35 ⟨rfl,g36⟩
      have H37:=H31.grow g36
      have z38:=g36.size
      refine aM ?_
      refine ⟨H37,?_⟩
      refine zr 5 63 Z (by kernel_rfl) H37 (fun wq hq=>Ex.rem (r:=(b.at_:Int).tmod (Af b.ord)) Z Z (by omega) Z) ?_
      refine zb 6 127 (((b.at_:Int).tmod (Af b.ord):Int) = (0:Int)) Z (by kernel_rfl) H37 (fun r hr wq hq=>bP Z Z hr) (fun h39=>?_) (fun h39=>?_)
      ·refine zr 7 255 Z (by kernel_rfl) H37 (fun wq hq=>aY (v:=bT) Z) (cQ (by kernel_rfl) (aQ (aB (aO (v:=bT) (Ba Z Z) ?_))))
       exact ⟨At (by unfold mayR; first | (simp [h13,h14,h15,h28,h39]; done) | (simp [h13,h14,h15,h28,h39]; omega) | (simp [h13,h14,h15,h28,h39]; intros; omega)),(H37.fix (i:=1) Z)⟩
      ·refine zr 7 255 Z (by kernel_rfl) H37 (fun wq hq=>aY (v:=bF) Z) (cQ (by kernel_rfl) (aQ (aB (aO (v:=bF) (Ba Z Z) ?_))))
       exact ⟨At (by unfold mayR; first | (simp [h13,h14,h15,h28,h39]; done) | (simp [h13,h14,h15,h28,h39]; omega) | (simp [h13,h14,h15,h28,h39]; intros; omega)),(H37.fix (i:=1) Z)⟩
set_option maxHeartbeats 1000000 in
set_option maxRecDepth 20000 in
theorem needR_ (w:World) (words links:Int):Ret prog 223 [(J words),(J links)] w (fun v w'=>v = .int .i64 (By words links)∧w.grownBy w' none):=by
  have H0:Sp [Bd w Bl] w:=Bv w
  refine aP func223 Z Z Z ?_
  refine cT (za (J 0) Z (cS (aD (cT (zm (J words) Z ?_)))))
  refine zc ((words:Int) < (0:Int)) Z (fun r hr=>bL Z Z hr) (fun h1=>?_) (fun h1=>?_)
  ·refine zm bT Z (zo Z (zo Z (zT bT Z (zm bT Z (zo Z (zo Z (zT bT Z (zm bT Z (zo Z (zo Z ?_))))))))))
   refine zT bT Z (cS (aE Z (cT (za (J (-1)) Z (cS (aB (aR (aO (v:=(J (-1))) (Ba Z Z) ?_))))))))
   exact ⟨Bi (by unfold By; rw [if_neg (by omega)]),(H0.fix (i:=0) Z)⟩
  ·refine zm bF Z (zm (J words) Z ?_)
   refine zc ((32:Int) < (words:Int)) Z (fun r hr=>bN Z Z hr) (fun h2=>?_) (fun h2=>?_)
   ·refine zF bT Z (zm bT Z (zo Z (zo Z (zT bT Z (zm bT Z (zo Z (zo Z (zT bT Z (cS (aE Z (cT (za (J (-1)) Z ?_))))))))))))
    refine cS (aB (aR (aO (v:=(J (-1))) (Ba Z Z) ?_)))
    exact ⟨Bi (by unfold By; rw [if_neg (by omega)]),(H0.fix (i:=0) Z)⟩
   ·refine zF bF Z (zm bF Z (zm (J links) Z ?_))
    refine zc ((links:Int) < (0:Int)) Z (fun r hr=>bL Z Z hr) (fun h3=>?_) (fun h3=>?_)
    ·refine zF bT Z (zm bT Z (zo Z (zo Z (zT bT Z (cS (aE Z (cT (za (J (-1)) Z (cS (aB (aR (aO (v:=(J (-1))) (Ba Z Z) ?_))))))))))))
     exact ⟨Bi (by unfold By; rw [if_neg (by omega)]),(H0.fix (i:=0) Z)⟩
    ·refine zF bF Z (zm bF Z (zm (J links) Z ?_))
     refine zc ((16:Int) < (links:Int)) Z (fun r hr=>bN Z Z hr) (fun h4=>?_) (fun h4=>?_)
     ·refine zF bT Z (cS (aE Z (cT (za (J (-1)) Z (cS (aB (aR (aO (v:=(J (-1))) (Ba Z Z) ?_))))))))
      exact ⟨Bi (by unfold By; rw [if_neg (by omega)]),(H0.fix (i:=0) Z)⟩
     ·refine zF bF Z (cS (aF Z (aA (aQ (cT (za (J 0) Z (cS (aD (aG ?_)))))))))
      refine aK (fun t=>Nat.beq t 5 || (Nat.ble 20 t && Nat.ble t 28)) (fun nL ρ wl => ∃ (k:Nat),ρ 5 = (J (k:Int))∧nL = 7 - k∧Sp [Bd w Bl] wl∧k ≤ 6 ∧ ∀ j:Nat,j < k → Af (j:Int) ≤ words + links) (7) ?aa0 ?bb0
      case aa0 =>
       exact ⟨0,rfl,rfl,H0,by omega,fun j hj=>by omega⟩
      case bb0 =>
       rintro n6 ρ0 w5 ho7 ⟨k,hs0_5,hn0,H8,hk,hall⟩
       obtain ⟨j0,rfl⟩:=ho7.shape1 hs0_5
       clear ho7 hs0_5
       subst hn0
       have z9:=(H8.fix (i:=0) rfl).size
       refine aD (cT (zm (J (k:Int)) Z ?_))
       have hz10:=Bc ((k:Int):Int)
       have hz11:=Bt (o:=((k:Int):Int)) (by omega) (by omega)
       refine aU call229 (sz_ _ ((k:Int):Int) (by omega) (by omega)) Z Z Z ?_
       rintro _ w12 ⟨rfl,g13⟩
       have H14:=H8.grow g13
       have z15:=g13.size
       refine zm (J words) Z (zg Z (bI (r:=1 + words) Z Z (Dl (by omega) (by omega))) (zm (J links) Z (zg Z (bI (r:=(1 + words) + links) Z Z (Dl (by omega) (by omega))) ?_)))
       refine zc (((Af ((k:Int):Int)):Int) < ((1 + words) + links:Int)) Z (fun r hr=>bL Z Z hr) (fun h16=>?_) (fun h16=>?_)
       ·refine cS (aE Z (aA (aQ (aG (aL (zm (J (k:Int)) Z (zg Z (bI (r:=(k:Int) + 1) Z Z (Dl (by omega) (by omega))) (za (J ((k:Int) + 1)) Z (aM (inB.n (aQ ?_)))))))))))
        have hnd:=need_round hk hall (by omega) (by omega)
        refine ⟨(by repeat (first | exact aJ _ _ | exact aH _ _ | refine aI ?_ Z _)),_,?_,k + 1,rfl,rfl,H14,hnd.1,hnd.2⟩
        omega
       ·refine cS (aF Z (aC (aS (aS (Bo (aQ (cT (zm (J (k:Int)) Z (za (J (k:Int)) Z (cS (aB (aO (v:=(J (k:Int))) (Ba Z Z) ?_))))))))))))
        exact ⟨Bi (by unfold By; rw [if_pos (by omega),needN_of (k:=k) (by omega) hk (fun j hj=>by have:=hall j hj; omega) (by omega)]),(H14.fix (i:=0) Z)⟩
set_option maxHeartbeats 1000000 in
set_option maxRecDepth 20000 in
theorem rdNum_ (w:World) (B:Nat) (bs:List UInt8) (A:Option Addr) (n c:Nat) (hr:Rd w B 1 A (Df bs)) (hn:n = bs.length) (hm:n ≤ 140737488351232):Ret prog 244 [(.slice A n c)] w (fun v w'=>(∃ x:Nat,v = .tuple #[.int .i64 (x:Int),.int .i64 4,.int .i64 0]∧w.grownBy w' none∧rdN bs = some ((x:Int),bs.drop 4)∧4 ≤ n∧x ≤ 2147483647) ∨ (∃ e:Int,v = .tuple #[.int .i64 0,.int .i64 0,.int .i64 e]∧w.grownBy w' none∧rdN bs = none∧e ≠ 0)):=by
  have H0:Sp [Bd w Bl] w:=Bv w
  refine aP func244 Z Z Z ?_
  refine cT (za (J 0) Z (za (J 0) Z (za (J 0) Z (cS (aD (cT (zm (.slice A n c) Z (zg Z (bR underlying97 Z) ?_))))))))
  refine zc (((n:Nat):Int) < (4:Int)) Z (fun r hr=>bL Z Z hr) (fun h1=>?_) (fun h1=>?_)
  ·refine cS (aE Z (cT (za (J 0) Z (za (J 0) Z (za (J 10) Z (cS (aB (aR (aO (v:=(.tuple #[(J 0),(J 0),(J 10)])) (res3 Z Z Z Z) ?_)))))))))
   exact .inr ⟨_,rfl,(H0.fix (i:=0) Z),rdN_short (by omega),by decide⟩
  ·refine cS (aF Z (aA (aQ (aD (cT (zm (.slice A n c) Z ?_))))))
   obtain ⟨e2,he3⟩ : ∃ e,(bs)[0]? = some e:=⟨_,List.getElem?_eq_getElem (by omega)⟩
   obtain ⟨ad4,hA5⟩:=Rd.sm hr (bcs_get he3)
   have hl6:=Eng.lt_len (bcs_get he3)
   refine zg Z (bS (b:=(ad4.add (0 * 1))) (i:=0) underlying97 sizeOf5 (by rw [← hA5]; rfl) Z (by omega) (by omega) Z) (zg Z (bW Z (Ax lo5 (Cl.at_ (v:=(.int .u8 (e2.toNat:Int))) (Rd.cl hr hA5 (bcs_get he3)) (i:=0) Z))) ?_)
   refine zc ((127:Int) < ((e2.toNat:Int):Int)) Z (fun r hr=>bN Z Z hr) (fun h7=>?_) (fun h7=>?_)
   ·refine cS (aE Z (cT (za (J 0) Z (za (J 0) Z (za (J 11) Z (cS (aB (aR (aO (v:=(.tuple #[(J 0),(J 0),(J 11)])) (res3 Z Z Z Z) ?_)))))))))
    exact .inr ⟨_,rfl,(H0.fix (i:=0) Z),rdN_big (by omega) he3 (by omega),by decide⟩
   ·refine cS (aF Z (aA (aQ (aD (aW (fun wq=>World.grownBy w wq none) Tryz.mixed (by kernel_rfl) ⟨Z,rfl,rfl,Nat.le_refl _,fun _ _ _=>rfl⟩ (QL.go Z Z Z (fun wq gq=>aX (v:=(.slice A n c)) Z) ?_))))))
    obtain ⟨e8,he9⟩ : ∃ e,(bs)[0]? = some e:=⟨_,List.getElem?_eq_getElem (by omega)⟩
    obtain ⟨ad10,hA11⟩:=Rd.sm hr (bcs_get he9)
    have hl12:=Eng.lt_len (bcs_get he9)
    refine QL.go Z Z Z (fun wq gq=>bS (b:=(ad10.add (0 * 1))) (i:=0) underlying97 sizeOf5 (by rw [← hA11]; rfl) Z (by omega) (by omega) Z) (QL.go Z Z Z (fun wq gq=>bW Z (Ax lo5 (Cl.at_ (v:=(.int .u8 (e8.toNat:Int))) (Rd.cl (hr.st0 gq) hA11 (bcs_get he9)) (i:=0) Z))) ?_)
    have hu13:=UInt8.toNat_lt e8
    refine QL.go Z Z Z (fun wq gq=>cD (r:=(e8.toNat:Int)) underlying5 underlying3 Z (Dl (by omega) (by omega))) (QL.go Z Z Z (fun wq gq=>bK (r:=16777216 * (e8.toNat:Int)) Z Z (Dl (by omega) (by omega))) (QL.go Z Z Z (fun wq gq=>aX (v:=(.slice A n c)) Z) ?_))
    obtain ⟨e14,he15⟩ : ∃ e,(bs)[1]? = some e:=⟨_,List.getElem?_eq_getElem (by omega)⟩
    obtain ⟨ad16,hA17⟩:=Rd.sm hr (bcs_get he15)
    have hl18:=Eng.lt_len (bcs_get he15)
    refine QL.go Z Z Z (fun wq gq=>bS (b:=(ad16.add (1 * 1))) (i:=1) underlying97 sizeOf5 (by rw [← hA17]; rfl) Z (by omega) (by omega) Z) (QL.go Z Z Z (fun wq gq=>bW Z (Ax lo5 (Cl.at_ (v:=(.int .u8 (e14.toNat:Int))) (Rd.cl (hr.st0 gq) hA17 (bcs_get he15)) (i:=0) Z))) ?_)
    have hu19:=UInt8.toNat_lt e14
    refine QL.go Z Z Z (fun wq gq=>cD (r:=(e14.toNat:Int)) underlying5 underlying3 Z (Dl (by omega) (by omega))) (QL.go Z Z Z (fun wq gq=>bK (r:=65536 * (e14.toNat:Int)) Z Z (Dl (by omega) (by omega))) (QL.go Z Z Z (fun wq gq=>bI (r:=(16777216 * (e8.toNat:Int)) + (65536 * (e14.toNat:Int))) Z Z (Dl (by omega) (by omega))) (QL.go Z Z Z (fun wq gq=>aX (v:=(.slice A n c)) Z) ?_)))
    obtain ⟨e20,he21⟩ : ∃ e,(bs)[2]? = some e:=⟨_,List.getElem?_eq_getElem (by omega)⟩
    obtain ⟨ad22,hA23⟩:=Rd.sm hr (bcs_get he21)
    have hl24:=Eng.lt_len (bcs_get he21)
    refine QL.go Z Z Z (fun wq gq=>bS (b:=(ad22.add (2 * 1))) (i:=2) underlying97 sizeOf5 (by rw [← hA23]; rfl) Z (by omega) (by omega) Z) ?_
    have hu25:=UInt8.toNat_lt e20
    refine QL.go Z Z Z (fun wq gq=>bW Z (Ax lo5 (Cl.at_ (v:=(.int .u8 (e20.toNat:Int))) (Rd.cl (hr.st0 gq) hA23 (bcs_get he21)) (i:=0) Z))) (QL.go Z Z Z (fun wq gq=>cD (r:=(e20.toNat:Int)) underlying5 underlying3 Z (Dl (by omega) (by omega))) (QL.go Z Z Z (fun wq gq=>bK (r:=256 * (e20.toNat:Int)) Z Z (Dl (by omega) (by omega))) (QL.go Z Z Z (fun wq gq=>bI (r:=((16777216 * (e8.toNat:Int)) + (65536 * (e14.toNat:Int))) + (256 * (e20.toNat:Int))) Z Z (Dl (by omega) (by omega))) (QL.go Z Z Z (fun wq gq=>aX (v:=(.slice A n c)) Z) ?_))))
    obtain ⟨e26,he27⟩ : ∃ e,(bs)[3]? = some e:=⟨_,List.getElem?_eq_getElem (by omega)⟩
    obtain ⟨ad28,hA29⟩:=Rd.sm hr (bcs_get he27)
    have hl30:=Eng.lt_len (bcs_get he27)
    refine QL.go Z Z Z (fun wq gq=>bS (b:=(ad28.add (3 * 1))) (i:=3) underlying97 sizeOf5 (by rw [← hA29]; rfl) Z (by omega) (by omega) Z) (QL.go Z Z Z (fun wq gq=>bW Z (Ax lo5 (Cl.at_ (v:=(.int .u8 (e26.toNat:Int))) (Rd.cl (hr.st0 gq) hA29 (bcs_get he27)) (i:=0) Z))) ?_)
    have hu31:=UInt8.toNat_lt e26
    refine QL.go Z Z Z (fun wq gq=>cD (r:=(e26.toNat:Int)) underlying5 underlying3 Z (Dl (by omega) (by omega))) (QL.go Z Z Z (fun wq gq=>bI (r:=(((16777216 * (e8.toNat:Int)) + (65536 * (e14.toNat:Int))) + (256 * (e20.toNat:Int))) + (e26.toNat:Int)) Z Z (Dl (by omega) (by omega))) (QL.go Z Z Z (fun wq gq=>aY (v:=(J ((((16777216 * (e8.toNat:Int)) + (65536 * (e14.toNat:Int))) + (256 * (e20.toNat:Int))) + (e26.toNat:Int)))) Z) (QL.go Z Z Z (fun wq gq=>aY (v:=(J 4)) Z) (QL.go Z Z Z (fun wq gq=>aY (v:=(J 0)) Z) (QL.nil ?_)))))
    intro w32 g33
    have H34:=H0.grow g33
    have z35:=g33.size
    refine aQ (aB (aO (v:=(.tuple #[(J ((((16777216 * (e8.toNat:Int)) + (65536 * (e14.toNat:Int))) + (256 * (e20.toNat:Int))) + (e26.toNat:Int))),(J 4),(J 0)])) (res3 Z Z Z Z) ?_))
    have hab:e8 = e2:=by have h1:=he3; rw [he9] at h1; exact Option.some.inj h1
    subst hab
    exact .inl ⟨16777216 * e8.toNat + 65536 * e14.toNat + 256 * e20.toNat + e26.toNat,by rw [show ((((16777216 * (e8.toNat:Int)) + (65536 * (e14.toNat:Int))) + (256 * (e20.toNat:Int))) + (e26.toNat:Int):Int) = ((16777216 * e8.toNat + 65536 * e14.toNat + 256 * e20.toNat + e26.toNat:Nat):Int) by omega],(H34.fix (i:=0) Z),rdN_four (by omega) he9 he15 he21 he27 (by omega),by omega,by omega⟩
set_option maxHeartbeats 1000000 in
set_option maxRecDepth 20000 in
theorem rdInt_ (w:World) (B:Nat) (bs:List UInt8) (A:Option Addr) (n c:Nat) (hr:Rd w B 1 A (Df bs)) (hn:n = bs.length) (hm:n ≤ 140737488351232):Ret prog 247 [(.slice A n c)] w (fun v w'=>(∃ x:Int,v = .tuple #[.int .i64 x,.int .i64 8,.int .i64 0]∧w.grownBy w' none∧rdI bs = some (x,bs.drop 8)∧8 ≤ n) ∨ (∃ e:Int,v = .tuple #[.int .i64 0,.int .i64 0,.int .i64 e]∧w.grownBy w' none∧rdI bs = none∧e ≠ 0)):=by
  have H0:Sp [Bd w Bl] w:=Bv w
  refine aP func247 Z Z Z ?_
  refine cT (za (J 0) Z (za (J 0) Z (za (J 0) Z (cS (aD (cT (zm (.slice A n c) Z (zg Z (bR underlying97 Z) ?_))))))))
  refine zc (((n:Nat):Int) < (8:Int)) Z (fun r hr=>bL Z Z hr) (fun h1=>?_) (fun h1=>?_)
  ·refine cS (aE Z (cT (za (J 0) Z (za (J 0) Z (za (J 10) Z (cS (aB (aR (aO (v:=(.tuple #[(J 0),(J 0),(J 10)])) (res3 Z Z Z Z) ?_)))))))))
   exact .inr ⟨_,rfl,(H0.fix (i:=0) Z),rdI_short (by omega),by decide⟩
  ·refine cS (aF Z (aA (aQ (cT (za (.int .u64 0) Z (cS (aD (cT (za (J 0) Z (cS (aG ?_)))))))))))
   refine aK (fun t=>(Nat.ble 5 t && Nat.ble t 6) || (Nat.ble 10 t && Nat.ble t 21)) (fun nL ρ wl => ∃ (i:Nat),ρ 5 = (.int .u64 ((be (bs.take i):Nat):Int))∧ρ 6 = (J (i:Int))∧nL = 8 - i∧Sp [Bd w Bl] wl∧i ≤ 8) (8) ?aa0 ?bb0
   case aa0 =>
    exact ⟨0,rfl,rfl,rfl,H0,by omega⟩
   case bb0 =>
    rintro n3 ρ0 w2 ho4 ⟨i,hs0_5,hs0_6,hn0,H5,hi⟩
    obtain ⟨j0,rfl⟩:=ho4.shape2 hs0_5 hs0_6
    clear ho4 hs0_5 hs0_6
    subst hn0
    have z6:=(H5.fix (i:=0) rfl).size
    refine aD (cT (zm (J (i:Int)) Z ?_))
    refine zc (((i:Int):Int) < (8:Int)) Z (fun r hr=>bL Z Z hr) (fun h7=>?_) (fun h7=>?_)
    ·refine cS (aE Z (aA (aQ (aD (aG (aL (zm (.int .u64 ((be (bs.take i):Nat):Int)) Z ?_)))))))
     have hbe:=be_lt7 (l:=bs.take i) (by rw [List.length_take]; omega)
     refine zg Z (bK (r:=((be (bs.take i) * 256:Nat):Int)) Z Z (by rw [IntKind.wrap_u64]; omega)) (zm (.slice A n c) Z (zm (J (i:Int)) Z ?_))
     obtain ⟨e8,he9⟩ : ∃ e,(bs)[i]? = some e:=⟨_,List.getElem?_eq_getElem (by omega)⟩
     obtain ⟨ad10,hA11⟩:=Rd.sm (hr.st0 (H5.fix (i:=0) rfl)) (bcs_get he9)
     have hl12:=Eng.lt_len (bcs_get he9)
     refine zg Z (bS (b:=(ad10.add (i * 1))) (i:=i) underlying97 sizeOf5 (by rw [← hA11]; rfl) Z (by omega) (by omega) Z) (zg Z (bW Z (Ax lo5 (Cl.at_ (v:=(.int .u8 (e8.toNat:Int))) (Rd.cl (hr.st0 (H5.fix (i:=0) Z)) hA11 (bcs_get he9)) (i:=0) Z))) ?_)
     have hu13:=UInt8.toNat_lt e8
     refine zg Z (cD (r:=((e8.toNat:Nat):Int)) underlying5 underlying234 Z (by rw [IntKind.wrap_u64]; omega)) ?_
     have hbt:=be_take he9
     refine zg Z (bI (r:=((be (bs.take (i + 1)):Nat):Int)) Z Z (by rw [IntKind.wrap_u64]; omega)) (za (.int .u64 ((be (bs.take (i + 1)):Nat):Int)) Z (aM (inB.n (aQ (aL (zm (J (i:Int)) Z (zg Z (bI (r:=(i:Int) + 1) Z Z (Dl (by omega) (by omega))) (za (J ((i:Int) + 1)) Z (cS ?_)))))))))
     refine ⟨(by repeat (first | exact aJ _ _ | exact aH _ _ | refine aI ?_ Z _)),_,?_,i + 1,rfl,rfl,rfl,H5,by omega⟩
     omega
    ·refine cS (aF Z (aC (aS (aS (Bo (aQ (cT (zm (.int .u64 ((be (bs.take i):Nat):Int)) Z (zg Z (cD (r:=IntKind.i64.wrap ((be (bs.take i):Nat):Int)) underlying234 underlying3 Z (Z)) (za (J (IntKind.i64.wrap ((be (bs.take i):Nat):Int))) Z (za (J 8) Z (za (J 0) Z (cS (aB (aO (v:=(.tuple #[(J (IntKind.i64.wrap ((be (bs.take i):Nat):Int))),(J 8),(J 0)])) (res3 Z Z Z Z) ?_)))))))))))))))
     have hi8:i = 8:=by omega
     subst hi8
     exact .inl ⟨_,rfl,(H5.fix (i:=0) Z),by unfold rdI; rw [if_neg (by omega)],by omega⟩
end Go.Proofs.YtfokljnhllflbaaGreat
namespace Go.Eng
open Go
section
variable {α:Type} {p:α → Bool}
theorem idxFrom_none : ∀ {l:List α} {k:Nat},idxFrom p k l = -1 → ∀ x ∈ l,p x = false
  | [],_,_,_,hx=>by cases hx
  | y :: l,k,h,x,hx=>by
    unfold idxFrom at h
    split at h
    · omega
    · rename_i hy
      rcases List.mem_cons.1 hx with rfl | hx
      · simpa using hy
      · exact idxFrom_none h x hx
theorem idxFrom_some : ∀ {l:List α} {k:Nat},idxFrom p k l ≠ -1 → ∃ i:Nat,idxFrom p k l = ((k + i:Nat):Int)∧i < l.length∧(∀ x ∈ l.take i,p x = false) ∧ ∃ x,l[i]? = some x∧p x = true
  | [],_,h=>absurd rfl h
  | y :: l,k,h=>by
    unfold idxFrom at h ⊢
    by_cases hy:p y = true
    · rw [if_pos hy]
      exact ⟨0,rfl,by simp,by simp,y,rfl,hy⟩
    · rw [if_neg hy] at h ⊢
      obtain ⟨i,h1,h2,h3,x,h4,h5⟩:=idxFrom_some h
      refine ⟨i + 1,by rw [h1]; congr 1; omega,by simpa using h2,fun z hz=>?_,x,by simpa using h4,h5⟩
      rw [List.take_succ_cons] at hz
      rcases List.mem_cons.1 hz with rfl | hz
      · simpa using hy
      · exact h3 z hz
theorem idxF_some {l:List α} (h:idxF p l ≠ -1) : ∃ i:Nat,idxF p l = (i:Int)∧i < l.length∧(∀ x ∈ l.take i,p x = false) ∧ ∃ x,l[i]? = some x∧p x = true:=by
  obtain ⟨i,h1,h2⟩:=idxFrom_some h
  rw [Nat.zero_add] at h1
  exact ⟨i,h1,h2⟩
end
end Go.Eng
namespace Go.Eng
open Go
theorem mayR_bd {o:Int} {b:Blk} (h:mayR o b = true) (h8:o ≤ 8):(0 ≤ b.ord∧b.ord ≤ o∧b.ord ≤ 8)∧0 ≤ b.at_∧b.at_ ≤ 256:=by
  obtain ⟨h1,h2,h3,h4,_⟩:=mayR_t.1 h
  have w1:=Bc o
  have w2:=Bc b.ord
  omega
theorem buddy_no {o:Int} {l:List Blk} (h : ¬ RightF o l):buddyB o l = false:=by
  cases e:buddyB o l with
  | false=>rfl
  | true=>exact absurd (buddy_right.1 e) h
theorem rf_ok {o:Int} {l:List Blk} (h:RightF o l) {k i:Nat} {x y:Blk} (hki:k < i) (hy:l[k]? = some y) (hx:l[i]? = some x):okP o y x:=by
  obtain ⟨_,_,_,h4⟩:=h
  have l1:=lt_len hy
  have l2:=lt_len hx
  have:=(List.pairwise_iff_getElem.1 h4) k i l1 l2 hki
  rw [List.getElem?_eq_getElem l1] at hy
  rw [List.getElem?_eq_getElem l2] at hx
  injection hy with hy
  injection hx with hx
  rw [hy,hx] at this
  exact this
theorem rf_of {o:Int} {l:List Blk} {n:Nat} (h1:3 ≤ o∧o ≤ 8) (h2:(l.length:Int) ≤ Af o) (hn:l.length ≤ n) (h : ∀ (j:Nat) (x:Blk),j < n → l[j]? = some x → mayR o x = true ∧ ∀ (k:Nat) (y:Blk),k < j → l[k]? = some y → okP o y x):RightF o l:=by
  refine ⟨h1,h2,fun x hx=>?_,List.pairwise_iff_getElem.2 fun i j hi hj hij=>?_⟩
  · obtain ⟨j,hj⟩:=List.mem_iff_getElem?.1 hx
    exact (h j x (by have:=lt_len hj; omega) hj).1
  · exact (h j _ (by omega) (List.getElem?_eq_getElem hj)).2 i _ hij (List.getElem?_eq_getElem hi)
theorem upto_go {α:Type} {l:List α} {i:Nat} {e:α} {p:Nat → α → Prop} (h : ∀ (j:Nat) (x:α),j < i → l[j]? = some x → p j x) (he:l[i]? = some e) (hp:p i e) : ∀ (j:Nat) (x:α),j < i + 1 → l[j]? = some x → p j x:=fun j x hj hx=>by
  rcases Nat.lt_or_ge j i with h1 | h1
  · exact h j x h1 hx
  · have:j = i:=by omega
    subst this
    rw [he] at hx
    injection hx with hx
    subst hx
    exact hp
theorem heap_no {h:Heap} (hn : ¬ RightH h):Dc h = false:=by
  cases e:Dc h with
  | false=>rfl
  | true=>exact absurd ((heap_right h).1 e) hn
def leadR (h:Heap) (t:Int):Bool:=decide (t = 0 ∨ t ∈ h.handles)
theorem leadR_t {h:Heap} {t:Int} (hl:leadR h t = true):t = 0 ∨ t ∈ h.handles:=by simpa [leadR] using hl
theorem leadR_f {h:Heap} {t:Int} (hl:leadR h t = false) : ¬ (t = 0 ∨ t ∈ h.handles):=by simpa [leadR] using hl
def placeR (h:Heap) (t:Int):Int:=idxF (fun o:Obj=>decide (o.handle = t)) h.objs
theorem place_mem {h:Heap} {t:Int} : 0 ≤ placeR h t ↔ t ∈ h.handles:=by
  unfold placeR
  constructor
  · intro h1
    obtain ⟨i,_,_,_,x,h4,h5⟩:=idxF_some (p:=fun o:Obj=>decide (o.handle = t)) (l:=h.objs) (by omega)
    exact List.mem_map.2 ⟨x,List.mem_of_getElem? h4,by simpa using h5⟩
  · intro h1
    obtain ⟨x,hx,e⟩:=List.mem_map.1 h1
    by_cases h2:idxF (fun o:Obj=>decide (o.handle = t)) h.objs = -1
    · have:=idxFrom_none h2 x hx
      simp [e] at this
    · obtain ⟨i,h3,_⟩:=idxF_some h2
      omega
theorem sumW_app (l m:List Blk):sumW (l ++ m) = sumW l + sumW m:=by simp [sumW]
theorem sumW_snoc {l:List Blk} {i:Nat} {b:Blk} (h:l[i]? = some b):sumW (l.take (i + 1)) = sumW (l.take i) + Af b.ord:=by
  rw [take_snoc h,sumW_app,sumW_cons]
  show _ + (_ + (0:Int)) = _
  omega
def objOK (h:Heap) (i:Nat) (x:Obj):Prop:=1 ≤ x.handle∧x.handle < h.next∧(∀ y:Obj,0 < i → h.objs[i - 1]? = some y → y.handle < x.handle)∧By x.words.length x.links.length = x.blk.ord∧mayR h.order x.blk = true ∧ ∀ t ∈ x.links,t = 0 ∨ t ∈ h.handles
theorem pw_of {l:List Blk} {n:Nat} (hn:l.length ≤ n) (h : ∀ (j:Nat) (x:Blk),j < n → l[j]? = some x → ∀ (k:Nat) (y:Blk),k < j → l[k]? = some y → meetB x y = false):l.Pairwise apart :=
  List.pairwise_iff_getElem.2 fun i j hi hj hij=>h j _ (by omega) (List.getElem?_eq_getElem hj) i _ hij (List.getElem?_eq_getElem hi)
theorem pw_at {l:List Blk} (h:l.Pairwise apart) {k i:Nat} {x y:Blk} (hki:k < i) (hy:l[k]? = some y) (hx:l[i]? = some x):meetB x y = false:=by
  have l1:=lt_len hy
  have l2:=lt_len hx
  have:=(List.pairwise_iff_getElem.1 h) k i l1 l2 hki
  rw [List.getElem?_eq_getElem l1] at hy
  rw [List.getElem?_eq_getElem l2] at hx
  injection hy with hy
  injection hx with hx
  rw [hy,hx] at this
  exact this
theorem hb_may {h:Heap} {n:Nat} (hb:buddyB h.order h.free = true) (hn:h.objs.length ≤ n) (ho : ∀ (j:Nat) (x:Obj),j < n → h.objs[j]? = some x → objOK h j x) : ∀ b ∈ h.blocks,mayR h.order b = true:=fun b hm=>by
  rcases List.mem_append.1 hm with hm | hm
  · exact (buddy_right.1 hb).2.2.1 b hm
  · obtain ⟨x,hx,rfl⟩:=List.mem_map.1 hm
    obtain ⟨j,hj⟩:=List.mem_iff_getElem?.1 hx
    exact (ho j x (by have:=lt_len hj; omega) hj).2.2.2.2.1
end Go.Eng
namespace Go.Eng
theorem cR {m m2:Nat → Bool} {j ρ ρ0:Da} (h:Out m ρ ρ0) (hm : ∀ t,m t = false → m2 t = false):Out m (Eng.mix m2 j ρ) ρ0:=fun t ht=>by
  unfold Eng.mix; rw [hm t ht]; exact h t ht
theorem ble_f {a b:Nat} : Nat.ble a b = false ↔ b < a:=by
  rw [← Bool.not_eq_true,Nat.ble_eq]; omega
theorem beq_f {a b:Nat} : Nat.beq a b = false ↔ a ≠ b:=by
  rw [← Bool.not_eq_true,Nat.beq_eq]
end Go.Eng
namespace Go.Proofs.YtfokljnhllflbaaGreat
open Go Go.Eng Go.RowKit Go.Proofs.Tryz
set_option maxHeartbeats 2000000 in
set_option maxRecDepth 20000 in
theorem right04_ (w:World) (B:Nat) (o:Int) (l:List Blk) (A:Option Addr) (n c:Nat) (hr:Rd w B 2 A (Cq l)) (hn:n = l.length) (hB:B ≤ w.heap.size):Ret prog 222 [(J o),(.slice A n c)] w (fun v w'=>v = .bool (buddyB o l)∧w.grownBy w' none):=by
  have H0:Sp [Bd w Bl] w:=Bv w
  refine aP func222 Z Z Z ?_
  refine cT (za bF Z (cS (aD (cT (zm (J o) Z (aU call235 (reg_ _ o) Z Z Z ?_))))))
  rintro _ w1 ⟨rfl,g2⟩
  have H3:=H0.grow g2
  have z4:=g2.size
  rcases hb5:(Az o 3 8) with _ | _
  ·have hwf:=withinB_f hb5
   refine zg Z (bC (b:=false) Z) (zm bT Z (zo Z (zo Z (zo Z (zo Z (zo Z (zT bT Z (cS (aE Z (cT (za bF Z (cS (aB (aR ?_))))))))))))))
   refine aO (v:=bF) (Ba Z Z) ?_
   have hrf : ¬ RightF o l:=fun q=>by have q1:=q.1; have q2:=q.2.1; omega
   exact ⟨At (buddy_no hrf).symm,(H3.fix (i:=0) Z)⟩
  ·have hwt:=Bh hb5
   refine zg Z (bC (b:=true) Z) (zm bF Z (zm (.slice A n c) Z (zg Z (bR underlying45 Z) (zm (J o) Z ?_))))
   have hz6:=Bc o
   have hz7:=Bt (o:=o) (by omega) (by omega)
   refine aU call229 (sz_ _ o (by omega) (by omega)) Z Z Z ?_
   rintro _ w8 ⟨rfl,g9⟩
   have H10:=H3.grow g9
   have z11:=g9.size
   refine zc (((Af o):Int) < ((n:Nat):Int)) Z (fun r hr=>bN Z Z hr) (fun h12=>?_) (fun h12=>?_)
   ·refine zF bT Z (cS (aE Z (cT (za bF Z (cS (aB (aR (aO (v:=bF) (Ba Z Z) ?_))))))))
    have hrf : ¬ RightF o l:=fun q=>by have q1:=q.1; have q2:=q.2.1; omega
    exact ⟨At (buddy_no hrf).symm,(H10.fix (i:=0) Z)⟩
   ·refine zF bF Z (cS (aF Z (aA (aQ (aD (cT (za (J 0) Z (cS (aG ?_)))))))))
    refine aK (fun t=>(Nat.ble 4 t && Nat.ble t 6) || (Nat.ble 17 t && Nat.ble t 77)) (fun nL ρ wl => ∃ (i:Nat),ρ 5 = (J (i:Int))∧nL = n - i∧Sp [Bd w Bl] wl∧i ≤ n ∧ ∀ (j:Nat) (x:Blk),j < i → l[j]? = some x → mayR o x = true ∧ ∀ (k:Nat) (y:Blk),k < j → l[k]? = some y → okP o y x) (n) ?aa0 ?bb0
    case aa0 =>
     exact ⟨0,rfl,rfl,H10,Nat.zero_le _,fun j x hj=>by omega⟩
    case bb0 =>
     rintro n14 ρ0 w13 ho15 ⟨i,hs0_5,hn0,H16,hi,hO⟩
     obtain ⟨j0,rfl⟩:=ho15.shape1 hs0_5
     clear ho15 hs0_5
     subst hn0
     have z17:=(H16.fix (i:=0) rfl).size
     refine aD (cT (zm (J (i:Int)) Z (zm (.slice A n c) Z (zg Z (bR underlying45 Z) ?_))))
     refine zc (((i:Int):Int) < ((n:Nat):Int)) Z (fun r hr=>bL Z Z hr) (fun h18=>?_) (fun h18=>?_)
     ·refine cS (aE Z (aA (aQ (aD (aG (aD (cT (zm (J o) Z (zm (.slice A n c) Z (zm (J (i:Int)) Z ?_))))))))))
      obtain ⟨e19,he20⟩ : ∃ e,(l)[i]? = some e:=⟨_,List.getElem?_eq_getElem (by omega)⟩
      obtain ⟨ad21,hA22⟩:=Rd.sm (hr.st0 (H16.fix (i:=0) rfl)) (Ca he20)
      have hl23:=Eng.lt_len (Ca he20)
      refine zg Z (bS (b:=(ad21.add (i * 2))) (i:=i) underlying45 sizeOf133 (by rw [← hA22]; rfl) Z (by omega) (by omega) Z) (zg Z (bW Z (Aj (cs:=e19.cells) wh133 (Rd.cl (hr.st0 (H16.fix (i:=0) Z)) hA22 (Ca he20)))) (aU call224 (mayR_ _ o e19 (by omega) (by omega)) Z Z Z ?_))
      rintro _ w24 ⟨rfl,g25⟩
      have H26:=H16.grow g25
      have z27:=g25.size
      rcases hb28:(mayR o e19) with _ | _
      ·refine zg Z (bC (b:=false) Z) (cS (aE Z (cT (za bF Z (cS (aB (aR (inB.r (aR (aR (inB.r (aR (aO (v:=bF) (Ba Z Z) ?_)))))))))))))
       have hrf : ¬ RightF o l:=fun q=>by have q1:=q.2.2.1 _ (List.mem_of_getElem? he20); rw [hb28] at q1; cases q1
       exact ⟨At (buddy_no hrf).symm,(H26.fix (i:=0) Z)⟩
      ·have hmt:=mayR_bd hb28 (by omega)
       refine zg Z (bC (b:=true) Z) (cS (aF Z (aA (aQ (cT (za (J 0) Z (cS (aG ?_))))))))
       refine aK (fun t=>Nat.beq t 4 || Nat.beq t 6 || (Nat.ble 30 t && Nat.ble t 77)) (fun nL ρ wl => ∃ (k:Nat),ρ 6 = (J (k:Int))∧nL = i - k∧Sp [Bd w Bl] wl∧k ≤ i ∧ ∀ (k2:Nat) (y:Blk),k2 < k → l[k2]? = some y → okP o y e19) (i) ?aa1 ?bb1
       case aa1 =>
        exact ⟨0,rfl,rfl,H26,Nat.zero_le _,fun j x hj=>by omega⟩
       case bb1 =>
        rintro n30 ρ1 w29 ho31 ⟨k,hs1_6,hn1,H32,hk,hin⟩
        obtain ⟨j1,rfl⟩:=ho31.shape1 hs1_6
        clear ho31 hs1_6
        subst hn1
        have z33:=(H32.fix (i:=0) rfl).size
        refine aD (cT (zm (J (k:Int)) Z (zm (J (i:Int)) Z ?_)))
        refine zc (((k:Int):Int) < ((i:Int):Int)) Z (fun r hr=>bL Z Z hr) (fun h34=>?_) (fun h34=>?_)
        ·refine cS (aE Z (aA (aQ (aD (aG (aD (cN (fun wq=>Sp [Bd w Bl] wq) Tryz.mixed Z ?_)))))))
         intro w35 g36
         have H37:=H32.grow g36
         have z38:=g36.size
         refine zr 0 1 Z (by kernel_rfl) H37 (fun wq hq=>aX (v:=(.slice A n c)) Z) (zr 1 3 Z (by kernel_rfl) H37 (fun wq hq=>aX (v:=(J (k:Int))) Z) (zr 5 35 Z (by kernel_rfl) H37 (fun wq hq=>aX (v:=(.slice A n c)) Z) (zr 6 99 Z (by kernel_rfl) H37 (fun wq hq=>aX (v:=(J (i:Int))) Z) ?_)))
         obtain ⟨e39,he40⟩ : ∃ e,(l)[k]? = some e:=⟨_,List.getElem?_eq_getElem (by omega)⟩
         obtain ⟨ad41,hA42⟩:=Rd.sm (hr.st0 (H37.fix (i:=0) rfl)) (Ca he40)
         have hl43:=Eng.lt_len (Ca he40)
         refine zr 2 103 Z (by kernel_rfl) H37 (fun wq hq=>bS (b:=(ad41.add (k * 2))) (i:=k) underlying45 sizeOf133 (by rw [← hA42]; rfl) Z (by omega) (by omega) Z) (zr 3 111 Z (by kernel_rfl) H37 (fun wq hq=>Cs (b:=((ad41.add (k * 2)))) Z Z) (zr 4 127 Z (by kernel_rfl) H37 (fun wq hq=>bW Z (Ax Bw (Cl.at_ (v:=(J e39.at_)) (Rd.cl (hr.st0 (hq.fix (i:=0) Z)) hA42 (Ca he40)) (i:=0) Z))) ?_))
         obtain ⟨ad44,hA45⟩:=Rd.sm (hr.st0 (H37.fix (i:=0) rfl)) (Ca he20)
         have hl46:=Eng.lt_len (Ca he20)
         refine zr 7 255 Z (by kernel_rfl) H37 (fun wq hq=>bS (b:=(ad44.add (i * 2))) (i:=i) underlying45 sizeOf133 (by rw [← hA45]; rfl) Z (by omega) (by omega) Z) (zr 8 511 Z (by kernel_rfl) H37 (fun wq hq=>Cs (b:=((ad44.add (i * 2)))) Z Z) (zr 9 1023 Z (by kernel_rfl) H37 (fun wq hq=>bW Z (Ax Bw (Cl.at_ (v:=(J e19.at_)) (Rd.cl (hr.st0 (hq.fix (i:=0) Z)) hA45 (Ca he20)) (i:=0) Z))) ?_))
         refine zb 10 2047 ((e19.at_:Int) ≤ (e39.at_:Int)) Z (by kernel_rfl) H37 (fun r hr wq hq=>bO Z Z hr) (fun h47=>?_) (fun h47=>?_)
         ·refine zr 11 4095 Z (by kernel_rfl) H37 (fun wq hq=>aX (v:=bT) Z) (zq 12 8191 Z (by kernel_rfl) H37 (zq 13 16383 Z (by kernel_rfl) H37 (zq 16 81919 Z (by kernel_rfl) H37 (zq 17 212991 Z (by kernel_rfl) H37 (zq 14 229375 Z (by kernel_rfl) H37 (zq 15 262143 Z (by kernel_rfl) H37 (zq 18 524287 Z (by kernel_rfl) H37 (zq 19 1048575 Z (by kernel_rfl) H37 (zq 20 2097151 Z (by kernel_rfl) H37 (zr 21 4194303 Z (by kernel_rfl) H37 (fun wq hq=>aZ (v:=bT) Z Z) ?_))))))))))
          refine zr 22 8388607 Z (by kernel_rfl) H37 (fun wq hq=>aX (v:=bT) Z) (zq 23 16777215 Z (by kernel_rfl) H37 (zq 24 33554431 Z (by kernel_rfl) H37 (zq 28 301989887 Z (by kernel_rfl) H37 (zq 25 335544319 Z (by kernel_rfl) H37 (zq 26 402653183 Z (by kernel_rfl) H37 (zq 27 536870911 Z (by kernel_rfl) H37 (zq 29 1073741823 Z (by kernel_rfl) H37 (zq 30 2147483647 Z (by kernel_rfl) H37 (zq 31 4294967295 Z (by kernel_rfl) H37 (zq 32 8589934591 Z (by kernel_rfl) H37 ?_))))))))))
          refine zq 36 77309411327 Z (by kernel_rfl) H37 (zq 37 214748364799 Z (by kernel_rfl) H37 (zq 33 223338299391 Z (by kernel_rfl) H37 (zq 34 240518168575 Z (by kernel_rfl) H37 (zq 35 274877906943 Z (by kernel_rfl) H37 (zq 38 549755813887 Z (by kernel_rfl) H37 (zq 39 1099511627775 Z (by kernel_rfl) H37 (zq 40 2199023255551 Z (by kernel_rfl) H37 (zq 41 4398046511103 Z (by kernel_rfl) H37 (zr 42 8796093022207 Z (by kernel_rfl) H37 (fun wq hq=>aZ (v:=bT) Z Z) (cQ (by kernel_rfl) ?_))))))))))
          refine aQ (aE Z (cT (za bF Z (cS (aB (inB.r (aR (aR (inB.r (inB.r (aR (aR (inB.r (aR (aO (v:=bF) (Ba Z Z) ?_)))))))))))))))
          have hrf : ¬ RightF o l:=fun q=>by
            obtain ⟨q1,q2,q3⟩:=rf_ok q (show k < i by omega) he40 he20
            first | omega | (rw [h47] at q2; cases q2) | exact q3 ⟨h34,blk_eq.2 h47⟩
          exact ⟨At (buddy_no hrf).symm,(H37.fix (i:=0) Z)⟩
         ·refine zr 11 4095 Z (by kernel_rfl) H37 (fun wq hq=>aX (v:=bF) Z) (zr 12 8191 Z (by kernel_rfl) H37 (fun wq hq=>aX (v:=(.slice A n c)) Z) (zr 13 16383 Z (by kernel_rfl) H37 (fun wq hq=>aX (v:=(J (i:Int))) Z) (zr 16 81919 Z (by kernel_rfl) H37 (fun wq hq=>aX (v:=(.slice A n c)) Z) (zr 17 212991 Z (by kernel_rfl) H37 (fun wq hq=>aX (v:=(J (k:Int))) Z) ?_))))
          obtain ⟨ad48,hA49⟩:=Rd.sm (hr.st0 (H37.fix (i:=0) rfl)) (Ca he20)
          have hl50:=Eng.lt_len (Ca he20)
          refine zr 14 229375 Z (by kernel_rfl) H37 (fun wq hq=>bS (b:=(ad48.add (i * 2))) (i:=i) underlying45 sizeOf133 (by rw [← hA49]; rfl) Z (by omega) (by omega) Z) (zr 15 262143 Z (by kernel_rfl) H37 (fun wq hq=>bW Z (Aj (cs:=e19.cells) wh133 (Rd.cl (hr.st0 (hq.fix (i:=0) Z)) hA49 (Ca he20)))) ?_)
          obtain ⟨ad51,hA52⟩:=Rd.sm (hr.st0 (H37.fix (i:=0) rfl)) (Ca he40)
          have hl53:=Eng.lt_len (Ca he40)
          refine zr 18 524287 Z (by kernel_rfl) H37 (fun wq hq=>bS (b:=(ad51.add (k * 2))) (i:=k) underlying45 sizeOf133 (by rw [← hA52]; rfl) Z (by omega) (by omega) Z) (zr 19 1048575 Z (by kernel_rfl) H37 (fun wq hq=>bW Z (Aj (cs:=e39.cells) wh133 (Rd.cl (hr.st0 (hq.fix (i:=0) Z)) hA52 (Ca he40)))) (cO (i:=20) (by kernel_rfl) ?_))
          refine ⟨_,2097151,rfl,by kernel_rfl,?_⟩
          have hmk:=mayR_bd (hO k e39 (by omega) he40).1 (by omega)
          refine aU call227 (meet_ _ e19 e39 (by first | assumption | (constructor <;> (first | omega | (show _ ≤ _; omega)))) (by first | assumption | (constructor <;> (first | omega | (show _ ≤ _; omega)))) (by first | assumption | (constructor <;> (first | omega | (show _ ≤ _; omega)))) (by first | assumption | (constructor <;> (first | omega | (show _ ≤ _; omega))))) Z Z Z ?_
          rintro _ w54 ⟨rfl,g55⟩
          have H56:=H37.grow g55
          have z57:=g55.size
          rcases hb58:(meetB e19 e39) with _ | _
          ·refine aM ?_
           refine ⟨H56,?_⟩
           refine zr 21 4194303 Z (by kernel_rfl) H56 (fun wq hq=>bA (v:=bF) Z Z) (zr 22 8388607 Z (by kernel_rfl) H56 (fun wq hq=>aX (v:=bF) Z) (zr 23 16777215 Z (by kernel_rfl) H56 (fun wq hq=>aX (v:=(.slice A n c)) Z) (zr 24 33554431 Z (by kernel_rfl) H56 (fun wq hq=>aX (v:=(J (i:Int))) Z) (zr 28 301989887 Z (by kernel_rfl) H56 (fun wq hq=>aX (v:=(J o)) Z) ?_))))
           obtain ⟨ad59,hA60⟩:=Rd.sm (hr.st0 (H56.fix (i:=0) rfl)) (Ca he20)
           have hl61:=Eng.lt_len (Ca he20)
           refine zr 25 335544319 Z (by kernel_rfl) H56 (fun wq hq=>bS (b:=(ad59.add (i * 2))) (i:=i) underlying45 sizeOf133 (by rw [← hA60]; rfl) Z (by omega) (by omega) Z) (zr 26 402653183 Z (by kernel_rfl) H56 (fun wq hq=>Cg (b:=(((ad59.add (i * 2))).add 1)) Z Z) (zr 27 536870911 Z (by kernel_rfl) H56 (fun wq hq=>bW Z (Ax Bw (Cl.at_ (v:=(J e19.ord)) (Rd.cl (hr.st0 (hq.fix (i:=0) Z)) hA60 (Ca he20)) (i:=1) Z))) ?_))
           refine zb 29 1073741823 ((e19.ord:Int) < (o:Int)) Z (by kernel_rfl) H56 (fun r hr wq hq=>bL Z Z hr) (fun h62=>?_) (fun h62=>?_)
           ·refine zr 30 2147483647 Z (by kernel_rfl) H56 (fun wq hq=>aX (v:=bT) Z) (zr 31 4294967295 Z (by kernel_rfl) H56 (fun wq hq=>aX (v:=(.slice A n c)) Z) (zr 32 8589934591 Z (by kernel_rfl) H56 (fun wq hq=>aX (v:=(J (i:Int))) Z) (zr 36 77309411327 Z (by kernel_rfl) H56 (fun wq hq=>aX (v:=(.slice A n c)) Z) (zr 37 214748364799 Z (by kernel_rfl) H56 (fun wq hq=>aX (v:=(J (k:Int))) Z) ?_))))
            obtain ⟨ad63,hA65⟩:=Rd.sm (hr.st0 (H56.fix (i:=0) rfl)) (Ca he20)
            have hl66:=Eng.lt_len (Ca he20)
            refine zr 33 223338299391 Z (by kernel_rfl) H56 (fun wq hq=>bS (b:=(ad63.add (i * 2))) (i:=i) underlying45 sizeOf133 (by rw [← hA65]; rfl) Z (by omega) (by omega) Z) (zr 34 240518168575 Z (by kernel_rfl) H56 (fun wq hq=>bW Z (Aj (cs:=e19.cells) wh133 (Rd.cl (hr.st0 (hq.fix (i:=0) Z)) hA65 (Ca he20)))) ?_)
            obtain ⟨ad67,hA68⟩:=Rd.sm (hr.st0 (H56.fix (i:=0) rfl)) (Ca he40)
            have hl69:=Eng.lt_len (Ca he40)
            refine zr 38 515396075519 Z (by kernel_rfl) H56 (fun wq hq=>bS (b:=(ad67.add (k * 2))) (i:=k) underlying45 sizeOf133 (by rw [← hA68]; rfl) Z (by omega) (by omega) Z) (zr 39 1065151889407 Z (by kernel_rfl) H56 (fun wq hq=>bW Z (Aj (cs:=e39.cells) wh133 (Rd.cl (hr.st0 (hq.fix (i:=0) Z)) hA68 (Ca he40)))) (cO (i:=35) (by kernel_rfl) ?_))
            refine ⟨_,1099511627775,rfl,by kernel_rfl,?_⟩
            refine aU call262 (twinRf_ _ e19 (by first | assumption | (constructor <;> (first | omega | (show _ ≤ _; omega)))) (by first | assumption | (constructor <;> (first | omega | (show _ ≤ _; omega))))) Z Z Z ?_
            rintro _ w70 ⟨rfl,g71⟩
            have H72:=H56.grow g71
            have z73:=g71.size
            refine aM ?_
            refine ⟨H72,?_⟩
            refine zb 40 2199023255551 (((twinR e19).at_:Int) = (e39.at_:Int)∧((twinR e19).ord:Int) = (e39.ord:Int)) Z (by kernel_rfl) H72 (fun r hr wq hq=>Ex.eqS (xs:=(twinR e19).cells) (ys:=e39.cells) eqGuardType133 (eqT133 hr) Z Z) (fun h74=>?_) (fun h74=>?_)
            ·refine zr 41 4398046511103 Z (by kernel_rfl) H72 (fun wq hq=>aZ (v:=bT) Z Z) (zr 42 8796093022207 Z (by kernel_rfl) H72 (fun wq hq=>bA (v:=bT) Z Z) (cQ (by kernel_rfl) (aQ (aE Z (cT (za bF Z (cS (aB (inB.r (aR (aR (inB.r (inB.r (aR (aR (inB.r (aR (aO (v:=bF) (Ba Z Z) ?_))))))))))))))))))
             have hrf : ¬ RightF o l:=fun q=>by
               obtain ⟨q1,q2,q3⟩:=rf_ok q (show k < i by omega) he40 he20
               first | omega | (rw [h74] at q2; cases q2) | exact q3 ⟨h62,blk_eq.2 h74⟩
             exact ⟨At (buddy_no hrf).symm,(H72.fix (i:=0) Z)⟩
            ·refine zr 41 4398046511103 Z (by kernel_rfl) H72 (fun wq hq=>aZ (v:=bF) Z Z) (zr 42 8796093022207 Z (by kernel_rfl) H72 (fun wq hq=>bA (v:=bF) Z Z) (cQ (by kernel_rfl) (aQ (aF Z (aA (inB.n (aQ (aL (zm (J (k:Int)) Z (zg Z (bI (r:=(k:Int) + 1) Z Z (Dl (by omega) (by omega))) (za (J ((k:Int) + 1)) Z (cS ?_))))))))))))
             refine ⟨(by repeat (first | exact aJ _ _ | exact aH _ _ | refine aI ?_ Z _ | refine cR ?_ (by intro t ht; simp only [Bool.or_eq_false_iff,Bool.and_eq_false_iff,ble_f,beq_f] at ht ⊢; omega))),_,?_,k + 1,rfl,rfl,H72,by omega,upto_go (p:=fun _ y=>okP o y e19) hin he40 ⟨by omega,hb58,fun ⟨q1,q2⟩=>by first | exact absurd q1 h74 | exact absurd (blk_eq.1 q2) h74⟩⟩
             omega
           ·refine zr 30 2147483647 Z (by kernel_rfl) H56 (fun wq hq=>aX (v:=bF) Z) (zq 31 4294967295 Z (by kernel_rfl) H56 (zq 32 8589934591 Z (by kernel_rfl) H56 (zq 36 77309411327 Z (by kernel_rfl) H56 (zq 37 214748364799 Z (by kernel_rfl) H56 (zq 33 223338299391 Z (by kernel_rfl) H56 (zq 34 240518168575 Z (by kernel_rfl) H56 (zq 35 274877906943 Z (by kernel_rfl) H56 (zq 38 549755813887 Z (by kernel_rfl) H56 (zq 39 1099511627775 Z (by kernel_rfl) H56 (zq 40 2199023255551 Z (by kernel_rfl) H56 ?_))))))))))
            refine zr 41 4398046511103 Z (by kernel_rfl) H56 (fun wq hq=>bA (v:=bF) Z Z) (zr 42 8796093022207 Z (by kernel_rfl) H56 (fun wq hq=>bA (v:=bF) Z Z) (cQ (by kernel_rfl) (aQ (aF Z (aA (inB.n (aQ (aL (zm (J (k:Int)) Z (zg Z (bI (r:=(k:Int) + 1) Z Z (Dl (by omega) (by omega))) (za (J ((k:Int) + 1)) Z (cS ?_))))))))))))
            refine ⟨(by repeat (first | exact aJ _ _ | exact aH _ _ | refine aI ?_ Z _ | refine cR ?_ (by intro t ht; simp only [Bool.or_eq_false_iff,Bool.and_eq_false_iff,ble_f,beq_f] at ht ⊢; omega))),_,?_,k + 1,rfl,rfl,H56,by omega,upto_go (p:=fun _ y=>okP o y e19) hin he40 ⟨by omega,hb58,fun ⟨q1,q2⟩=>by first | exact absurd q1 h62 | exact absurd (blk_eq.1 q2) h62⟩⟩
            omega
          ·refine aM ?_
           refine ⟨H56,?_⟩
           refine zr 21 4194303 Z (by kernel_rfl) H56 (fun wq hq=>bA (v:=bT) Z Z) (zr 22 8388607 Z (by kernel_rfl) H56 (fun wq hq=>aX (v:=bT) Z) (zq 23 16777215 Z (by kernel_rfl) H56 (zq 24 33554431 Z (by kernel_rfl) H56 (zq 28 301989887 Z (by kernel_rfl) H56 (zq 25 335544319 Z (by kernel_rfl) H56 (zq 26 402653183 Z (by kernel_rfl) H56 (zq 27 536870911 Z (by kernel_rfl) H56 (zq 29 1073741823 Z (by kernel_rfl) H56 (zq 30 2147483647 Z (by kernel_rfl) H56 (zq 31 4294967295 Z (by kernel_rfl) H56 ?_))))))))))
           refine zq 32 8589934591 Z (by kernel_rfl) H56 (zq 36 77309411327 Z (by kernel_rfl) H56 (zq 37 214748364799 Z (by kernel_rfl) H56 (zq 33 223338299391 Z (by kernel_rfl) H56 (zq 34 240518168575 Z (by kernel_rfl) H56 (zq 35 274877906943 Z (by kernel_rfl) H56 (zq 38 549755813887 Z (by kernel_rfl) H56 (zq 39 1099511627775 Z (by kernel_rfl) H56 (zq 40 2199023255551 Z (by kernel_rfl) H56 (zq 41 4398046511103 Z (by kernel_rfl) H56 (zr 42 8796093022207 Z (by kernel_rfl) H56 (fun wq hq=>aZ (v:=bT) Z Z) ?_))))))))))
           refine cQ (by kernel_rfl) (aQ (aE Z (cT (za bF Z (cS (aB (inB.r (aR (aR (inB.r (inB.r (aR (aR (inB.r (aR (aO (v:=bF) (Ba Z Z) ?_))))))))))))))))
           have hrf : ¬ RightF o l:=fun q=>by
             obtain ⟨q1,q2,q3⟩:=rf_ok q (show k < i by omega) he40 he20
             first | omega | (rw [hb58] at q2; cases q2) | exact q3 ⟨h47,blk_eq.2 hb58⟩
           exact ⟨At (buddy_no hrf).symm,(H56.fix (i:=0) Z)⟩
        ·refine cS (aF Z (aC (aS (aS (Bo (inB.n (aQ (aL (zm (J (i:Int)) Z (zg Z (bI (r:=(i:Int) + 1) Z Z (Dl (by omega) (by omega))) (za (J ((i:Int) + 1)) Z (cS ?_))))))))))))
         refine ⟨(by repeat (first | exact aJ _ _ | exact aH _ _ | refine aI ?_ Z _ | refine cR ?_ (by intro t ht; simp only [Bool.or_eq_false_iff,Bool.and_eq_false_iff,ble_f,beq_f] at ht ⊢; omega))),_,?_,i + 1,rfl,rfl,H32,by omega,upto_go hO he20 ⟨hb28,fun k2 y hk2 hy=>hin k2 y (by omega) hy⟩⟩
         omega
     ·refine cS (aF Z (aC (aS (aS (Bo (aQ (cT (za bT Z (cS (aB (aO (v:=bT) (Ba Z Z) ?_)))))))))))
      have hrt:RightF o l:=rf_of hwt (by omega) (by omega) hO
      exact ⟨At (buddy_right.2 hrt).symm,(H16.fix (i:=0) Z)⟩
set_option maxHeartbeats 400000 in
set_option maxRecDepth 20000 in
theorem own04_ (w : World) (B : Nat) (l : List Blk) (A : Option Addr) (n c : Nat) (hr : Rd w B 2 A (Cq l)) (hn : n = l.length) (hB : B ≤ w.heap.size) (hm : n ≤ 1099511627776) : Ret prog 159 [(.slice A n c)] w (fun v w' => ∃ (A' : Option Addr) (n' c' : Nat), v = .slice A' n' c' ∧ Sp ([Ai 133 2 A' n' c' (Cq l)] ++ [Bd w Bl]) w') := by
  have H0:Sp [Bd w Bl] w:=Bv w
  refine aP func159 Z Z Z ?_
  refine cT (za (.slice none 0 0) Z (cS (cT (za (.slice none 0 0) Z (cS (cT (zm (.slice none 0 0) Z (zm (.slice A n c) Z ?_))))))))
  have H1:=H0.nil_ 133 2
  refine cL (base:=0) (xss:=(Cq [])) (yss:=(Cq l)) el45 (H1.wr (i:=0) Z) Z hr Z (by simp only [Aq,Au,Ar,Am,Ak,Ap,List.length_append,List.length_cons,List.length_nil,List.length_take,List.length_drop,List.length_map,Cr,Dp,Bj,Bk,Do]; try omega) (blks_one _) (by omega) (by omega) (by omega) Z Z ?_
  intro w2 A3 c4 g5 ow6 nx7
  have H8:Sp [Ai 133 2 A3 (0 + n) c4 (Cq l),Bd w Bl] w2:=H1.setR (i:=0) rfl g5 ((List.nil_append _) ▸ ow6) nx7 rfl
  have z9:=g5.size
  refine za (.slice A3 (0 + n) c4) Z (cS (cT (zm (.slice A3 (0 + n) c4) Z (za (.slice A3 (0 + n) c4) Z (cS (aB (aO (v:=(.slice A3 (0 + n) c4)) (Ba Z Z) ?_)))))))
  exact ⟨_,_,_,rfl,(H8.sel [0,1] (by decide) Z)⟩
set_option maxHeartbeats 1000000 in
set_option maxRecDepth 20000 in
theorem blocks_ (w : World) (B : Nat) (rh : RHeap) (ros : List RObj) (h : Heap) (H : HeapR w B rh ros h) (hB : B ≤ w.heap.size) (hfl : h.free.length ≤ 1000000) (hob : h.objs.length ≤ 1000000) : Ret prog 226 [(.agg (rh.cells).toArray)] w (fun v w' => ∃ (A' : Option Addr) (n' c' : Nat), v = .slice A' n' c' ∧ Sp ([Ai 133 2 A' n' c' (Cq h.blocks)] ++ [Bd w Bl]) w') := by
  have hord:=H.order
  have hnx:=H.next
  have hfn:=H.fn
  have hfm:=H.fm
  have hon:=H.objs.n
  have hom:=H.objs.m
  have hol:=H.objs.len
  have H0:Sp [Bd w Bl] w:=Bv w
  refine aP func226 Z Z Z ?_
  refine cT (bH (cs:=rh.cells) Z Z Z ?_)
  intro w1 b2 hb3 hz4 g5 o6
  have H7:=H0.newB g5 o6 (by omega)
  have z8:=g5.size
  refine za (.slice none 0 0) Z (cS (cT (zg Z (fa47_4 (b:=⟨b2,7,none⟩) Z Z) (zl (.slice rh.free.a rh.free.n rh.free.c) lo45 (H7.ob (i:=0) Z) Z (aU call159 (own04_ _ w1.heap.size h.free rh.free.a rh.free.n rh.free.c ((H.fr.st0 (H7.fix (i:=1) Z)).more (by omega)) (by first | assumption | omega) (Nat.le_refl _) (by omega)) Z Z Z ?_)))))
  rintro _ w12 ⟨A9,n10,c11,rfl,g13⟩
  have g14:=g13.fix (i:=1) rfl
  have H15:Sp [Ai 133 2 A9 n10 c11 (Cq h.free),Aa b2 47 rh.cells,Bd w Bl] w12:=H7.join (m:=[Ai 133 2 A9 n10 c11 (Cq h.free)]) g13
  have z16:=g14.size
  refine za (.slice A9 n10 c11) Z (cS (aD (cT (za (J 0) Z (cS (aG ?_))))))
  have hz0:h.free = (h.free ++ (h.objs.take 0).map Obj.blk):=by simp
  have hl17:=H15.len (i:=0) rfl
  rw [Am] at hl17
  refine aK (fun t=>(Nat.ble 3 t && Nat.ble t 4) || (Nat.ble 8 t && Nat.ble t 23)) (fun nL ρ wl => ∃ (k n1 c1:Nat) (A1:Option Addr),ρ 4 = (J (k:Int))∧ρ 3 = (.slice A1 n1 c1)∧nL = rh.objs.n - k∧Sp [Ai 133 2 A1 n1 c1 (Cq (h.free ++ (h.objs.take k).map Obj.blk)),Aa b2 47 rh.cells,Bd w Bl] wl∧k ≤ rh.objs.n∧n1 = h.free.length + k) (rh.objs.n) ?aa0 ?bb0
  case aa0 =>
   have H18:Sp [Ai 133 2 A9 n10 c11 (Cq (h.free ++ (h.objs.take 0).map Obj.blk)),Aa b2 47 rh.cells,Bd w Bl] w12:=H15.eqR (i:=0) rfl rfl (congrArg Cq hz0) rfl
   exact ⟨0,n10,c11,A9,rfl,rfl,rfl,H18,Nat.zero_le _,by omega⟩
  case bb0 =>
   rintro n20 ρ0 w19 ho21 ⟨k,n1,c1,A1,hs0_4,hs0_3,hn0,H22,hk,hn1⟩
   obtain ⟨j0,rfl⟩:=ho21.shape2 hs0_4 hs0_3
   clear ho21 hs0_4 hs0_3
   subst hn0
   have z23:=(H22.fix (i:=2) rfl).size
   refine aD (cT (zm (J (k:Int)) Z (zg Z (fa47_1 (b:=⟨b2,1,none⟩) Z Z) (zl (.slice rh.objs.a rh.objs.n rh.objs.c) lo43 (H22.ob (i:=1) Z) Z (zg Z (bR underlying43 Z) ?_)))))
   refine zc (((k:Int):Int) < ((rh.objs.n:Nat):Int)) Z (fun r hr=>bL Z Z hr) (fun h24=>?_) (fun h24=>?_)
   ·refine cS (aE Z (aA (aQ (aD (aG (aL (zm (.slice A1 n1 c1) Z (zg Z (fa47_1 (b:=⟨b2,1,none⟩) Z Z) (zl (.slice rh.objs.a rh.objs.n rh.objs.c) lo43 (H22.ob (i:=1) Z) Z (zm (J (k:Int)) Z ?_))))))))))
    obtain ⟨e25,he26⟩ : ∃ e,ros[k]? = some e:=⟨_,List.getElem?_eq_getElem (by omega)⟩
    obtain ⟨o27,ho28⟩ : ∃ e,h.objs[k]? = some e:=⟨_,List.getElem?_eq_getElem (by omega)⟩
    have oR29:=H.objs.all k e25 o27 he26 ho28
    have e30:=oR29.wl
    have e31:=oR29.ll
    have e32:=oR29.b
    have e33:=oR29.wm
    have e34:=oR29.lm
    have e35:=oR29.h
    obtain ⟨ad36,hA37⟩:=Rd.sm (H.objs.rd.st0 (H22.fix (i:=2) rfl)) (Cj he26)
    have hl38:=Eng.lt_len (Cj he26)
    refine zg Z (bS (b:=(ad36.add (k * 5))) (i:=k) underlying43 sizeOf136 (by rw [← hA37]; rfl) Z (by omega) (by omega) Z) (zg Z (fa136_1 (b:=(((ad36.add (k * 5))).add 1)) Z Z) (zg Z (bW Z (Aj (cs:=[(J e25.blk.at_),(J e25.blk.ord)]) wh133 ((Rd.cl (H.objs.rd.st0 (H22.fix (i:=2) Z)) hA37 (Cj he26)).sub 1 2))) (cF (cs:=[(J e25.blk.at_),(J e25.blk.ord)]) underlying45 sizeOf133 ze45 Z Z Z (by decide) Z Z Z ?_)))
    intro w39 b40 hb41 hz42 g43 o44
    have H45:=H22.newB g43 o44 (by omega)
    have z46:=g43.size
    refine cL (base:=0) (xss:=(Cq (h.free ++ (h.objs.take k).map Obj.blk))) (yss:=(Cq ([⟨e25.blk.at_,e25.blk.ord⟩]))) el45 (H45.wr (i:=1) Z) Z (Ob.rd1 (H45.ob (i:=0) Z) Z) Z (by simp only [Aq,Au,Ar,Am,Ak,Ap,List.length_append,List.length_cons,List.length_nil,List.length_take,List.length_drop,List.length_map,Cr,Dp,Bj,Bk,Do]; try omega) (blks_one _) (by omega) (by omega) (by omega) Z Z ?_
    intro w47 A48 c49 g50 ow51 nx52
    have H53:Sp [Aa b40 133 [(J e25.blk.at_),(J e25.blk.ord)],Ai 133 2 A48 (n1 + 1) c49 (Cq ((h.free ++ (h.objs.take k).map Obj.blk) ++ [⟨e25.blk.at_,e25.blk.ord⟩])),Aa b2 47 rh.cells,Bd w Bl] w47:=H45.setR (i:=1) rfl g50 ((blks_app _ _).symm ▸ ow51) nx52 rfl
    have z54:=g50.size
    refine za (.slice A48 (n1 + 1) c49) Z (aM (inB.n (aQ (aL (zm (J (k:Int)) Z (zg Z (bI (r:=(k:Int) + 1) Z Z (Dl (by omega) (by omega))) (za (J ((k:Int) + 1)) Z (cS ?_))))))))
    have H55:Sp [Aa b40 133 [(J e25.blk.at_),(J e25.blk.ord)],Ai 133 2 A48 (n1 + 1) c49 (Cq (h.free ++ (h.objs.take (k + 1)).map Obj.blk)),Aa b2 47 rh.cells,Bd w Bl] w47:=H53.eqR (i:=1) rfl rfl (by rw [take_snoc ho28,List.map_append,← List.append_assoc,List.map_cons,← oR29.b]; rfl) rfl
    refine ⟨(by repeat (first | exact aJ _ _ | exact aH _ _ | refine aI ?_ Z _)),_,?_,k + 1,n1 + 1,c49,A48,rfl,rfl,rfl,(H55.sel [1,2,3] (by decide) Z),by omega,by omega⟩
    omega
   ·refine cS (aF Z (aC (aS (aS (Bo (aQ (cT (zm (.slice A1 n1 c1) Z (za (.slice A1 n1 c1) Z (cS (aB (aO (v:=(.slice A1 n1 c1)) (Ba Z Z) ?_))))))))))))
    have hkk:h.objs.take k = h.objs:=List.take_of_length_le (by omega)
    rw [hkk] at H22
    exact ⟨_,_,_,rfl,(H22.sel [0,2] (by decide) Z)⟩
set_option maxHeartbeats 1000000 in
set_option maxRecDepth 20000 in
theorem place_ (w:World) (B:Nat) (rh:RHeap) (ros:List RObj) (h:Heap) (H:HeapR w B rh ros h) (hB:B ≤ w.heap.size) (t:Int):Ret prog 232 [(.agg (rh.cells).toArray),(J t)] w (fun v w'=>v = .int .i64 (placeR h t)∧w.grownBy w' none):=by
  have hord:=H.order
  have hnx:=H.next
  have hfn:=H.fn
  have hfm:=H.fm
  have hon:=H.objs.n
  have hom:=H.objs.m
  have hol:=H.objs.len
  have H0:Sp [Bd w Bl] w:=Bv w
  refine aP func232 Z Z Z ?_
  refine cT (bH (cs:=rh.cells) Z Z Z ?_)
  intro w1 b2 hb3 hz4 g5 o6
  have H7:=H0.newB g5 o6 (by omega)
  have z8:=g5.size
  refine za (J 0) Z (cS (aD (cT (za (J 0) Z (cS (aG ?_))))))
  refine aK (fun t=>(Nat.ble 4 t && Nat.ble t 21)) (fun nL ρ wl => ∃ (k:Nat),ρ 5 = (J (k:Int))∧nL = rh.objs.n - k∧Sp [Aa b2 47 rh.cells,Bd w Bl] wl∧k ≤ rh.objs.n∧idxFrom (fun o:Eng.Obj=>decide (o.handle = t)) k (h.objs.drop k) = idxF (fun o:Eng.Obj=>decide (o.handle = t)) h.objs) (rh.objs.n) ?aa0 ?bb0
  case aa0 =>
   exact ⟨0,rfl,rfl,H7,Nat.zero_le _,rfl⟩
  case bb0 =>
   rintro n10 ρ0 w9 ho11 ⟨k,hs0_5,hn0,H12,hk,hix⟩
   obtain ⟨j0,rfl⟩:=ho11.shape1 hs0_5
   clear ho11 hs0_5
   subst hn0
   have z13:=(H12.fix (i:=1) rfl).size
   refine aD (cT (zm (J (k:Int)) Z (zg Z (fa47_1 (b:=⟨b2,1,none⟩) Z Z) (zl (.slice rh.objs.a rh.objs.n rh.objs.c) lo43 (H12.ob (i:=0) Z) Z (zg Z (bR underlying43 Z) ?_)))))
   refine zc (((k:Int):Int) < ((rh.objs.n:Nat):Int)) Z (fun r hr=>bL Z Z hr) (fun h14=>?_) (fun h14=>?_)
   ·refine cS (aE Z (aA (aQ (aD (aG (cT (zg Z (fa47_1 (b:=⟨b2,1,none⟩) Z Z) (zl (.slice rh.objs.a rh.objs.n rh.objs.c) lo43 (H12.ob (i:=0) Z) Z (zm (J (k:Int)) Z ?_)))))))))
    obtain ⟨e15,he16⟩ : ∃ e,ros[k]? = some e:=⟨_,List.getElem?_eq_getElem (by omega)⟩
    obtain ⟨o17,ho18⟩ : ∃ e,h.objs[k]? = some e:=⟨_,List.getElem?_eq_getElem (by omega)⟩
    have oR19:=H.objs.all k e15 o17 he16 ho18
    have e20:=oR19.wl
    have e21:=oR19.ll
    have e22:=oR19.b
    have e23:=oR19.wm
    have e24:=oR19.lm
    have e25:=oR19.h
    obtain ⟨ad26,hA27⟩:=Rd.sm (H.objs.rd.st0 (H12.fix (i:=1) rfl)) (Cj he16)
    have hl28:=Eng.lt_len (Cj he16)
    refine zg Z (bS (b:=(ad26.add (k * 5))) (i:=k) underlying43 sizeOf136 (by rw [← hA27]; rfl) Z (by omega) (by omega) Z) (zg Z (fa136_0 (b:=((ad26.add (k * 5)))) Z Z) (zg Z (bW Z (Ax Bw (Cl.at_ (v:=(J e15.handle)) (Rd.cl (H.objs.rd.st0 (H12.fix (i:=1) Z)) hA27 (Cj he16)) (i:=0) Z))) (zm (J t) Z ?_)))
    refine zc ((e15.handle:Int) = (t:Int)) Z (fun r hr=>bP Z Z hr) (fun h29=>?_) (fun h29=>?_)
    ·refine cS (aE Z (cT (zm (J (k:Int)) Z (za (J (k:Int)) Z (cS (aB (inB.r (aR (aR (inB.r (aR (aO (v:=(J (k:Int))) (Ba Z Z) ?_))))))))))))
     exact ⟨Bi (idxF_yes hix ho18 (by rw [decide_eq_true_eq,← oR19.h]; exact h29)),(H12.fix (i:=1) Z)⟩
    ·refine cS (aF Z (aA (inB.n (aQ (aL (zm (J (k:Int)) Z (zg Z (bI (r:=(k:Int) + 1) Z Z (Dl (by omega) (by omega))) (za (J ((k:Int) + 1)) Z (cS ?_)))))))))
     refine ⟨(by repeat (first | exact aJ _ _ | exact aH _ _ | refine aI ?_ Z _)),_,?_,k + 1,rfl,rfl,H12,by omega,idxF_go hix ho18 (by rw [decide_eq_false_iff_not,← oR19.h]; exact h29)⟩
     omega
   ·refine cS (aF Z (aC (aS (aS (Bo (aQ (cT (za (J (-1)) Z (cS (aB (aO (v:=(J (-1))) (Ba Z Z) ?_)))))))))))
    exact ⟨Bi (idxF_end hix (by omega)),(H12.fix (i:=1) Z)⟩
set_option maxHeartbeats 400000 in
set_option maxRecDepth 20000 in
theorem leadsR_ (w:World) (B:Nat) (rh:RHeap) (ros:List RObj) (h:Heap) (H:HeapR w B rh ros h) (hB:B ≤ w.heap.size) (t:Int):Ret prog 225 [(.agg (rh.cells).toArray),(J t)] w (fun v w'=>v = .bool (leadR h t)∧w.grownBy w' none):=by
  have hord:=H.order
  have hnx:=H.next
  have hfn:=H.fn
  have hfm:=H.fm
  have hon:=H.objs.n
  have hom:=H.objs.m
  have hol:=H.objs.len
  have H0:Sp [Bd w Bl] w:=Bv w
  refine aP func225 Z Z Z ?_
  refine cT (bH (cs:=rh.cells) Z Z Z ?_)
  intro w1 b2 hb3 hz4 g5 o6
  have H7:=H0.newB g5 o6 (by omega)
  have z8:=g5.size
  refine za bF Z (cS (cT (zm (J t) Z ?_)))
  refine zc ((t:Int) = (0:Int)) Z (fun r hr=>bP Z Z hr) (fun h9=>?_) (fun h9=>?_)
  ·refine zm bT Z (zo Z (zo Z (zo Z (zo Z (zT bT Z (za bT Z (cS (aB (aO (v:=bT) (Ba Z Z) ?_)))))))))
   exact ⟨At (by unfold leadR; symm; rw [decide_eq_true_eq]; first | exact .inl h9 | exact .inr (place_mem.1 h9)),(H7.fix (i:=1) Z)⟩
  ·refine zm bF Z (zg Z (bW Z (Aj (cs:=rh.cells) wh47 (H7.ob (i:=0) Z).cl)) (zm (J t) Z (aU call232 (place_ _ _ rh _ _ (H.st0 (H7.fix (i:=1) Z)) (by omega) t) Z Z Z ?_)))
   rintro _ w10 ⟨rfl,g11⟩
   have H12:=H7.grow g11
   have z13:=g11.size
   refine zc ((0:Int) ≤ ((placeR h t):Int)) Z (fun r hr=>bO Z Z hr) (fun h14=>?_) (fun h14=>?_)
   ·refine zF bT Z (za bT Z (cS (aB (aO (v:=bT) (Ba Z Z) ?_))))
    exact ⟨At (by unfold leadR; symm; rw [decide_eq_true_eq]; first | exact .inl h14 | exact .inr (place_mem.1 h14)),(H12.fix (i:=1) Z)⟩
   ·refine zF bF Z (za bF Z (cS (aB (aO (v:=bF) (Ba Z Z) ?_))))
    exact ⟨At (by unfold leadR; symm; rw [decide_eq_false_iff_not]; rintro (q | q); exact absurd q h9; exact h14 (place_mem.2 q)),(H12.fix (i:=1) rfl)⟩
set_option maxHeartbeats 400000 in
set_option maxRecDepth 20000 in
theorem wordsR_ (w:World) (B:Nat) (l:List Blk) (A:Option Addr) (n c:Nat) (hr:Rd w B 2 A (Cq l)) (hn:n = l.length) (hB:B ≤ w.heap.size) (hm:n ≤ 1000000) (hw : ∀ b ∈ l,0 ≤ b.ord∧b.ord ≤ 8):Ret prog 228 [(.slice A n c)] w (fun v w'=>v = .int .i64 (sumW l)∧w.grownBy w' none):=by
  have H0:Sp [Bd w Bl] w:=Bv w
  refine aP func228 Z Z Z ?_
  refine cT (za (J 0) Z (cS (cT (za (J 0) Z (cS (aD (cT (za (J 0) Z (cS (aG ?_))))))))))
  refine aK (fun t=>(Nat.ble 3 t && Nat.ble t 18)) (fun nL ρ wl => ∃ (i:Nat),ρ 3 = (J (sumW (l.take i)))∧ρ 4 = (J (i:Int))∧nL = n - i∧Sp [Bd w Bl] wl∧i ≤ n∧0 ≤ sumW (l.take i)∧sumW (l.take i) ≤ 256 * i) (n) ?aa0 ?bb0
  case aa0 =>
   exact ⟨0,rfl,rfl,rfl,H0,Nat.zero_le _,⟨Int.le_refl _,by show (0:Int) ≤ _; omega⟩⟩
  case bb0 =>
   rintro n2 ρ0 w1 ho3 ⟨i,hs0_3,hs0_4,hn0,H4,hi,hsm⟩
   obtain ⟨j0,rfl⟩:=ho3.shape2 hs0_3 hs0_4
   clear ho3 hs0_3 hs0_4
   subst hn0
   have z5:=(H4.fix (i:=0) rfl).size
   refine aD (cT (zm (J (i:Int)) Z (zm (.slice A n c) Z (zg Z (bR underlying45 Z) ?_))))
   refine zc (((i:Int):Int) < ((n:Nat):Int)) Z (fun r hr=>bL Z Z hr) (fun h6=>?_) (fun h6=>?_)
   ·refine cS (aE Z (aA (aQ (aD (aG (aL (zm (J (sumW (l.take i))) Z (zm (.slice A n c) Z (zm (J (i:Int)) Z ?_)))))))))
    obtain ⟨e7,he8⟩ : ∃ e,(l)[i]? = some e:=⟨_,List.getElem?_eq_getElem (by omega)⟩
    obtain ⟨ad9,hA10⟩:=Rd.sm (hr.st0 (H4.fix (i:=0) rfl)) (Ca he8)
    have hl11:=Eng.lt_len (Ca he8)
    refine zg Z (bS (b:=(ad9.add (i * 2))) (i:=i) underlying45 sizeOf133 (by rw [← hA10]; rfl) Z (by omega) (by omega) Z) (zg Z (Cg (b:=(((ad9.add (i * 2))).add 1)) Z Z) (zg Z (bW Z (Ax Bw (Cl.at_ (v:=(J e7.ord)) (Rd.cl (hr.st0 (H4.fix (i:=0) Z)) hA10 (Ca he8)) (i:=1) Z))) ?_))
    have hob:=hw e7 (List.mem_of_getElem? he8)
    have hz12:=Bc e7.ord
    have hz13:=Bt (o:=e7.ord) (by omega) (by omega)
    refine aU call229 (sz_ _ e7.ord (by omega) (by omega)) Z Z Z ?_
    rintro _ w14 ⟨rfl,g15⟩
    have H16:=H4.grow g15
    have z17:=g15.size
    have hsw:=sumW_snoc he8
    refine zg Z (bI (r:=sumW (l.take (i + 1))) Z Z (by rw [Dl (by omega) (by omega)]; exact hsw.symm)) (za (J (sumW (l.take (i + 1)))) Z (aM (inB.n (aQ (aL (zm (J (i:Int)) Z (zg Z (bI (r:=(i:Int) + 1) Z Z (Dl (by omega) (by omega))) (za (J ((i:Int) + 1)) Z (cS ?_)))))))))
    refine ⟨(by repeat (first | exact aJ _ _ | exact aH _ _ | refine aI ?_ Z _)),_,?_,i + 1,rfl,rfl,rfl,H16,by omega,by constructor <;> omega⟩
    omega
   ·refine cS (aF Z (aC (aS (aS (Bo (aQ (cT (zm (J (sumW (l.take i))) Z (za (J (sumW (l.take i))) Z (cS (aB (aO (v:=(J (sumW (l.take i)))) (Ba Z Z) ?_))))))))))))
    exact ⟨by rw [List.take_of_length_le (by omega)],(H4.fix (i:=0) Z)⟩
set_option maxHeartbeats 4000000 in
set_option maxRecDepth 20000 in
theorem right05_ (w:World) (B:Nat) (rh:RHeap) (ros:List RObj) (h:Heap) (H:HeapR w B rh ros h) (hB:B ≤ w.heap.size) (hxr:h.next ≤ 9223372036854775807):Ret prog 167 [(.agg (rh.cells).toArray)] w (fun v w'=>v = .bool (Dc h)∧w.grownBy w' none):=by
  have hord:=H.order
  have hnx:=H.next
  have hfn:=H.fn
  have hfm:=H.fm
  have hon:=H.objs.n
  have hom:=H.objs.m
  have hol:=H.objs.len
  have H0:Sp [Bd w Bl] w:=Bv w
  refine aP func167 Z Z Z ?_
  refine cT (bH (cs:=rh.cells) Z Z Z ?_)
  intro w1 b2 hb3 hz4 g5 o6
  have H7:=H0.newB g5 o6 (by omega)
  have z8:=g5.size
  refine za bF Z (cS (aD (cT (zg Z (fa47_0 (b:=⟨b2,0,none⟩) Z Z) (zl (J rh.order) Bw (H7.ob (i:=0) Z) Z (zg Z (fa47_4 (b:=⟨b2,7,none⟩) Z Z) (zl (.slice rh.free.a rh.free.n rh.free.c) lo45 (H7.ob (i:=0) Z) Z (aU call222 (right04_ _ w1.heap.size rh.order h.free rh.free.a rh.free.n rh.free.c ((H.fr.st0 (H7.fix (i:=1) Z)).more (by omega)) (by first | assumption | omega) (Nat.le_refl _)) Z Z Z ?_))))))))
  rintro _ w9 ⟨rfl,g10⟩
  have H11:=H7.grow g10
  have z12:=g10.size
  rcases hb13:(buddyB rh.order h.free) with _ | _
  ·refine zg Z (bC (b:=false) Z) (zm bT Z (zo Z (zo Z (zo Z (zT bT Z (zm bT Z (zo Z (zo Z (zo Z (zo Z ?_))))))))))
   refine zT bT Z (zm bT Z (zo Z (zo Z (zo Z (zo Z (zT bT Z (cS (aE Z (cT (za bF Z (cS (aB (aR (aO (v:=bF) (Ba Z Z) ?_))))))))))))))
   have hrf : ¬ RightH h:=fun q=>by have q1:=q.1; have q2:=q.2.1; have q3:=q.2.2.1; first | omega | (rw [← hord,hb13] at q1; cases q1)
   exact ⟨At (heap_no hrf).symm,(H11.fix (i:=1) Z)⟩
  ·refine zg Z (bC (b:=true) Z) (zm bF Z (zg Z (fa47_2 (b:=⟨b2,2,none⟩) Z Z) (zl (J rh.next) Bw (H11.ob (i:=0) Z) Z ?_)))
   refine zc ((rh.next:Int) < (1:Int)) Z (fun r hr=>bL Z Z hr) (fun h14=>?_) (fun h14=>?_)
   ·refine zF bT Z (zm bT Z (zo Z (zo Z (zo Z (zo Z (zT bT Z (zm bT Z (zo Z (zo Z (zo Z ?_))))))))))
    refine zo Z (zT bT Z (cS (aE Z (cT (za bF Z (cS (aB (aR (aO (v:=bF) (Ba Z Z) ?_)))))))))
    have hrf : ¬ RightH h:=fun q=>by have q1:=q.1; have q2:=q.2.1; have q3:=q.2.2.1; first | omega | (rw [← hord,hb13] at q1; cases q1)
    exact ⟨At (heap_no hrf).symm,(H11.fix (i:=1) Z)⟩
   ·refine zF bF Z (zm bF Z (zg Z (fa47_2 (b:=⟨b2,2,none⟩) Z Z) (zl (J rh.next) Bw (H11.ob (i:=0) Z) Z (zg Z (bJ (r:=rh.next - 1) Z Z (Dl (by omega) (by omega))) ?_))))
    refine zc ((1000000:Int) < (rh.next - 1:Int)) Z (fun r hr=>bN Z Z hr) (fun h15=>?_) (fun h15=>?_)
    ·refine zF bT Z (zm bT Z (zo Z (zo Z (zo Z (zo Z (zT bT Z (cS (aE Z (cT (za bF Z (cS (aB (aR (aO (v:=bF) (Ba Z Z) ?_))))))))))))))
     have hrf : ¬ RightH h:=fun q=>by have q1:=q.1; have q2:=q.2.1; have q3:=q.2.2.1; first | omega | (rw [← hord,hb13] at q1; cases q1)
     exact ⟨At (heap_no hrf).symm,(H11.fix (i:=1) Z)⟩
    ·refine zF bF Z (zm bF Z (zg Z (fa47_1 (b:=⟨b2,1,none⟩) Z Z) (zl (.slice rh.objs.a rh.objs.n rh.objs.c) lo43 (H11.ob (i:=0) Z) Z (zg Z (bR underlying43 Z) ?_))))
     refine zc ((256:Int) < ((rh.objs.n:Nat):Int)) Z (fun r hr=>bN Z Z hr) (fun h16=>?_) (fun h16=>?_)
     ·refine zF bT Z (cS (aE Z (cT (za bF Z (cS (aB (aR (aO (v:=bF) (Ba Z Z) ?_))))))))
      have hrf : ¬ RightH h:=fun q=>by have q1:=q.1; have q2:=q.2.1; have q3:=q.2.2.1; first | omega | (rw [← hord,hb13] at q1; cases q1)
      exact ⟨At (heap_no hrf).symm,(H11.fix (i:=1) Z)⟩
     ·refine zF bF Z (cS (aF Z (aA (aQ (aD (cT (za (J 0) Z (cS (aG ?_)))))))))
      have hbu2:buddyB h.order h.free = true:=by rw [← hord]; exact hb13
      obtain ⟨hbr1,hbr2,hbr3,hbr4⟩:=buddy_right.1 hbu2
      have hwb8:=Bc h.order
      refine aK (fun t=>(Nat.ble 2 t && Nat.ble t 5) || (Nat.ble 33 t && Nat.ble t 104)) (fun nL ρ wl => ∃ (i:Nat),ρ 3 = (J (i:Int))∧nL = rh.objs.n - i∧Sp [Aa b2 47 rh.cells,Bd w Bl] wl∧i ≤ rh.objs.n ∧ ∀ (j:Nat) (x:Eng.Obj),j < i → h.objs[j]? = some x → objOK h j x) (rh.objs.n) ?aa0 ?bb0
      case aa0 =>
       exact ⟨0,rfl,rfl,H11,Nat.zero_le _,fun j x hj=>by omega⟩
      case bb0 =>
       rintro n18 ρ0 w17 ho19 ⟨i,hs0_3,hn0,H20,hi,hO⟩
       obtain ⟨j0,rfl⟩:=ho19.shape1 hs0_3
       clear ho19 hs0_3
       subst hn0
       have z21:=(H20.fix (i:=1) rfl).size
       refine aD (cT (zm (J (i:Int)) Z (zg Z (fa47_1 (b:=⟨b2,1,none⟩) Z Z) (zl (.slice rh.objs.a rh.objs.n rh.objs.c) lo43 (H20.ob (i:=0) Z) Z (zg Z (bR underlying43 Z) ?_)))))
       refine zc (((i:Int):Int) < ((rh.objs.n:Nat):Int)) Z (fun r hr=>bL Z Z hr) (fun h22=>?_) (fun h22=>?_)
       ·refine cS (aE Z (aA (aQ (aD (aG (cT (zg Z (fa47_1 (b:=⟨b2,1,none⟩) Z Z) (zl (.slice rh.objs.a rh.objs.n rh.objs.c) lo43 (H20.ob (i:=0) Z) Z (zm (J (i:Int)) Z ?_)))))))))
        obtain ⟨e23,he24⟩ : ∃ e,ros[i]? = some e:=⟨_,List.getElem?_eq_getElem (by omega)⟩
        obtain ⟨o25,ho26⟩ : ∃ e,h.objs[i]? = some e:=⟨_,List.getElem?_eq_getElem (by omega)⟩
        have oR27:=H.objs.all i e23 o25 he24 ho26
        have e28:=oR27.wl
        have e29:=oR27.ll
        have e30:=oR27.b
        have e31:=oR27.wm
        have e32:=oR27.lm
        have e33:=oR27.h
        obtain ⟨ad34,hA35⟩:=Rd.sm (H.objs.rd.st0 (H20.fix (i:=1) rfl)) (Cj he24)
        have hl36:=Eng.lt_len (Cj he24)
        refine zg Z (bS (b:=(ad34.add (i * 5))) (i:=i) underlying43 sizeOf136 (by rw [← hA35]; rfl) Z (by omega) (by omega) Z) (zg Z (bW Z (Aj (cs:=e23.cells) wh136 (Rd.cl (H.objs.rd.st0 (H20.fix (i:=1) Z)) hA35 (Cj he24)))) (bG (cs:=[(J 0),(J 0),(J 0),(.slice none 0 0),(.slice none 0 0)]) zeroValue136 Z Z Z ?_))
        intro w37 b38 hb39 hz40 g41 o42
        have H43:=H20.newB g41 o42 (by omega)
        have z44:=g41.size
        refine bE (vs:=e23.cells) (cs':=e23.cells) sizeOf136 (H43.ob (i:=0) Z) Z Z Z Z Z Z ?_
        intro w45 hz46 g47 o48
        have H49:Sp [Aa b38 136 e23.cells,Aa b2 47 rh.cells,Bd w Bl] w45:=H43.setB (i:=0) rfl g47 o48 rfl
        have z50:=g47.size
        refine cS (aD (aD (aW (fun wq=>World.grownBy w45 wq none) Tryz.mixed (by kernel_rfl) ⟨Z,rfl,rfl,Nat.le_refl _,fun _ _ _=>rfl⟩ (QL.go Z Z Z (fun wq gq=>fa136_0 (b:=⟨b38,0,none⟩) Z Z) (QL.go Z Z Z (fun wq gq=>bW Z (Ax Bw (Ob.cell (v:=(J e23.handle)) ((H49.grow gq).ob (i:=0) Z) Z))) ?_)))))
        refine QL.br (p:=(e23.handle:Int) < (1:Int)) Z Z Z (fun r hr wq gq=>bL Z Z hr) (fun h51=>?_) (fun h51=>?_)
        ·refine QL.go Z Z Z (fun wq gq=>aX (v:=bT) Z) (QL.out Z Z Z (QL.out Z Z Z (QL.out Z Z Z (QL.out Z Z Z (QL.out Z Z Z (QL.go Z Z Z (fun wq gq=>aZ (v:=bT) Z Z) (QL.go Z Z Z (fun wq gq=>aX (v:=bT) Z) (QL.out Z Z Z (QL.out Z Z Z (QL.out Z Z Z ?_))))))))))
         refine QL.out Z Z Z (QL.out Z Z Z (QL.out Z Z Z (QL.out Z Z Z (QL.out Z Z Z (QL.out Z Z Z (QL.out Z Z Z (QL.out Z Z Z (QL.out Z Z Z (QL.out Z Z Z (QL.out Z Z Z ?_))))))))))
         refine QL.go Z Z Z (fun wq gq=>aZ (v:=bT) Z Z) (QL.nil ?_)
         intro w52 g53
         have H54:=H49.grow g53
         have z55:=g53.size
         refine aQ (aE Z (cT (za bF Z (cS (aB (aR (inB.r (aR (aR (inB.r (aR (aO (v:=bF) (Ba Z Z) ?_))))))))))))
         have hrf : ¬ RightH h:=fun q=>by
           obtain ⟨q1,q2,q3,_⟩:=q.2.2.2.1 i o25 ho26
           rw [← oR27.h] at q1 q2 q3
           omega
         exact ⟨At (heap_no hrf).symm,(H54.fix (i:=2) Z)⟩
        ·refine QL.go Z Z Z (fun wq gq=>aX (v:=bF) Z) (QL.go Z Z Z (fun wq gq=>fa136_0 (b:=⟨b38,0,none⟩) Z Z) (QL.go Z Z Z (fun wq gq=>bW Z (Ax Bw (Ob.cell (v:=(J e23.handle)) ((H49.grow gq).ob (i:=0) Z) Z))) (QL.go Z Z Z (fun wq gq=>fa47_2 (b:=⟨b2,2,none⟩) Z Z) (QL.go Z Z Z (fun wq gq=>bW Z (Ax Bw (Ob.cell (v:=(J rh.next)) ((H49.grow gq).ob (i:=1) Z) Z))) ?_))))
         refine QL.br (p:=(rh.next:Int) ≤ (e23.handle:Int)) Z Z Z (fun r hr wq gq=>bO Z Z hr) (fun h56=>?_) (fun h56=>?_)
         ·refine QL.go Z Z Z (fun wq gq=>bA (v:=bT) Z Z) (QL.go Z Z Z (fun wq gq=>aX (v:=bT) Z) (QL.out Z Z Z (QL.out Z Z Z (QL.out Z Z Z (QL.out Z Z Z (QL.out Z Z Z (QL.out Z Z Z (QL.out Z Z Z (QL.out Z Z Z (QL.out Z Z Z ?_))))))))))
          refine QL.out Z Z Z (QL.out Z Z Z (QL.out Z Z Z (QL.out Z Z Z (QL.out Z Z Z (QL.go Z Z Z (fun wq gq=>aZ (v:=bT) Z Z) (QL.nil ?_))))))
          intro w57 g58
          have H59:=H49.grow g58
          have z60:=g58.size
          refine aQ (aE Z (cT (za bF Z (cS (aB (aR (inB.r (aR (aR (inB.r (aR (aO (v:=bF) (Ba Z Z) ?_))))))))))))
          have hrf : ¬ RightH h:=fun q=>by
            obtain ⟨q1,q2,q3,_⟩:=q.2.2.2.1 i o25 ho26
            rw [← oR27.h] at q1 q2 q3
            omega
          exact ⟨At (heap_no hrf).symm,(H59.fix (i:=2) Z)⟩
         ·refine QL.go Z Z Z (fun wq gq=>bA (v:=bF) Z Z) (QL.go Z Z Z (fun wq gq=>aX (v:=bF) Z) (QL.go Z Z Z (fun wq gq=>aX (v:=(J (i:Int))) Z) ?_))
          refine QL.br (p:=(0:Int) < ((i:Int):Int)) Z Z Z (fun r hr wq gq=>bN Z Z hr) (fun h61=>?_) (fun h61=>?_)
          ·refine QL.go Z Z Z (fun wq gq=>aX (v:=bT) Z) (QL.go Z Z Z (fun wq gq=>fa47_1 (b:=⟨b2,1,none⟩) Z Z) (QL.go Z Z Z (fun wq gq=>bW Z (Ax lo43 (Ob.cell (v:=(.slice rh.objs.a rh.objs.n rh.objs.c)) ((H49.grow gq).ob (i:=1) Z) Z))) (QL.go Z Z Z (fun wq gq=>aX (v:=(J (i:Int))) Z) (QL.go Z Z Z (fun wq gq=>bJ (r:=((i - 1:Nat):Int)) Z Z (by rw [Dl (by omega) (by omega)]; omega)) ?_))))
           obtain ⟨e62,he63⟩ : ∃ e,ros[(i - 1)]? = some e:=⟨_,List.getElem?_eq_getElem (by omega)⟩
           obtain ⟨o65,ho66⟩ : ∃ e,h.objs[(i - 1)]? = some e:=⟨_,List.getElem?_eq_getElem (by omega)⟩
           have oR67:=H.objs.all (i - 1) e62 o65 he63 ho66
           have e68:=oR67.wl
           have e69:=oR67.ll
           have e70:=oR67.b
           have e71:=oR67.wm
           have e72:=oR67.lm
           have e73:=oR67.h
           obtain ⟨ad74,hA75⟩:=Rd.sm (H.objs.rd.st0 (H49.fix (i:=2) rfl)) (Cj he63)
           have hl76:=Eng.lt_len (Cj he63)
           refine QL.go Z Z Z (fun wq gq=>bS (b:=(ad74.add ((i - 1) * 5))) (i:=(i - 1)) underlying43 sizeOf136 (by rw [← hA75]; rfl) Z (by omega) (by omega) Z) (QL.go Z Z Z (fun wq gq=>fa136_0 (b:=((ad74.add ((i - 1) * 5)))) Z Z) (QL.go Z Z Z (fun wq gq=>bW Z (Ax Bw (Cl.at_ (v:=(J e62.handle)) (Rd.cl (H.objs.rd.st0 ((H49.grow gq).fix (i:=2) Z)) hA75 (Cj he63)) (i:=0) Z))) (QL.go Z Z Z (fun wq gq=>fa136_0 (b:=⟨b38,0,none⟩) Z Z) (QL.go Z Z Z (fun wq gq=>bW Z (Ax Bw (Ob.cell (v:=(J e23.handle)) ((H49.grow gq).ob (i:=0) Z) Z))) ?_))))
           refine QL.br (p:=(e23.handle:Int) ≤ (e62.handle:Int)) Z Z Z (fun r hr wq gq=>bO Z Z hr) (fun h77=>?_) (fun h77=>?_)
           ·refine QL.go Z Z Z (fun wq gq=>aZ (v:=bT) Z Z) (QL.go Z Z Z (fun wq gq=>bA (v:=bT) Z Z) (QL.nil ?_))
            intro w78 g79
            have H80:=H49.grow g79
            have z81:=g79.size
            refine aQ (aE Z (cT (za bF Z (cS (aB (aR (inB.r (aR (aR (inB.r (aR (aO (v:=bF) (Ba Z Z) ?_))))))))))))
            have hrf : ¬ RightH h:=fun q=>by
              obtain ⟨q1,q2,q3,_⟩:=q.2.2.2.1 i o25 ho26
              rw [← oR27.h] at q1 q2 q3
              have q4:=q3 o65 (by omega) ho66
              rw [← oR67.h] at q4
              omega
            exact ⟨At (heap_no hrf).symm,(H80.fix (i:=2) Z)⟩
           ·refine QL.go Z Z Z (fun wq gq=>aZ (v:=bF) Z Z) (QL.go Z Z Z (fun wq gq=>bA (v:=bF) Z Z) (QL.nil ?_))
            intro w82 g83
            have H84:=H49.grow g83
            have z85:=g83.size
            refine aQ (aF Z (aA (aQ (aD (aD (cN (fun wq=>Sp [Aa b38 136 e23.cells,Aa b2 47 rh.cells,Bd w Bl] wq) Tryz.mixed Z ?_))))))
            intro w86 g87
            have H88:=H84.grow g87
            have z89:=g87.size
            refine zr 0 1 Z (by kernel_rfl) H88 (fun wq hq=>fa136_2 (b:=⟨b38,3,none⟩) Z Z) (zr 3 9 Z (by kernel_rfl) H88 (fun wq hq=>fa136_3 (b:=⟨b38,4,none⟩) Z Z) (zr 7 137 Z (by kernel_rfl) H88 (fun wq hq=>fa136_1 (b:=⟨b38,1,none⟩) Z Z) (zr 8 393 Z (by kernel_rfl) H88 (fun wq hq=>Cg (b:=⟨b38,2,none⟩) Z Z) (zr 1 395 Z (by kernel_rfl) H88 (fun wq hq=>bW Z (Ax lo134 (Ob.cell (v:=(.slice e23.words.a e23.words.n e23.words.c)) (hq.ob (i:=0) Z) Z))) (zr 2 399 Z (by kernel_rfl) H88 (fun wq hq=>bR underlying134 Z) (zr 4 415 Z (by kernel_rfl) H88 (fun wq hq=>bW Z (Ax lo134 (Ob.cell (v:=(.slice e23.links.a e23.links.n e23.links.c)) (hq.ob (i:=0) Z) Z))) (zr 5 447 Z (by kernel_rfl) H88 (fun wq hq=>bR underlying134 Z) (zr 9 959 Z (by kernel_rfl) H88 (fun wq hq=>bW Z (Ax Bw (Ob.cell (v:=(J e23.blk.ord)) (hq.ob (i:=0) Z) Z))) ?_))))))))
            refine cO (i:=6) (by kernel_rfl) ?_
            refine ⟨_,1023,rfl,by kernel_rfl,?_⟩
            have hnb90:=needI_bd ((e23.words.n:Nat):Int) ((e23.links.n:Nat):Int)
            refine aU call223 (needR_ _ ((e23.words.n:Nat):Int) ((e23.links.n:Nat):Int)) Z Z Z ?_
            rintro _ w91 ⟨rfl,g92⟩
            have H93:=H88.grow g92
            have z94:=g92.size
            refine aM ?_
            refine ⟨H93,?_⟩
            refine zb 10 2047 (((By ((e23.words.n:Nat):Int) ((e23.links.n:Nat):Int)):Int) ≠ (e23.blk.ord:Int)) Z (by kernel_rfl) H93 (fun r hr wq hq=>bQ Z Z hr) (fun h95=>?_) (fun h95=>?_)
            ·refine zr 11 4095 Z (by kernel_rfl) H93 (fun wq hq=>aX (v:=bT) Z) (zq 12 8191 Z (by kernel_rfl) H93 (zq 14 24575 Z (by kernel_rfl) H93 (zq 13 32767 Z (by kernel_rfl) H93 (zq 15 65535 Z (by kernel_rfl) H93 (zq 16 131071 Z (by kernel_rfl) H93 (zq 17 262143 Z (by kernel_rfl) H93 (zr 18 524287 Z (by kernel_rfl) H93 (fun wq hq=>aZ (v:=bT) Z Z) (cQ (by kernel_rfl) (aQ (aE Z (cT ?_)))))))))))
             refine za bF Z (cS (aB (aR (inB.r (aR (aR (inB.r (aR (aO (v:=bF) (Ba Z Z) ?_)))))))))
             have hrf : ¬ RightH h:=fun q=>by
               obtain ⟨_,_,_,q4,q5,_⟩:=q.2.2.2.1 i o25 ho26
               rw [← oR27.wl,← oR27.ll,← oR27.b] at q4
               rw [← oR27.b,← hord] at q5
               first | exact h95 q4 | (rw [h95] at q5; cases q5)
             exact ⟨At (heap_no hrf).symm,(H93.fix (i:=2) Z)⟩
            ·refine zr 11 4095 Z (by kernel_rfl) H93 (fun wq hq=>aX (v:=bF) Z) (zr 12 8191 Z (by kernel_rfl) H93 (fun wq hq=>fa47_0 (b:=⟨b2,0,none⟩) Z Z) (zr 14 24575 Z (by kernel_rfl) H93 (fun wq hq=>fa136_1 (b:=⟨b38,1,none⟩) Z Z) (zr 13 32767 Z (by kernel_rfl) H93 (fun wq hq=>bW Z (Ax Bw (Ob.cell (v:=(J rh.order)) (hq.ob (i:=1) Z) Z))) (zr 15 65535 Z (by kernel_rfl) H93 (fun wq hq=>bW Z (Aj (cs:=[(J e23.blk.at_),(J e23.blk.ord)]) wh133 ((hq.ob (i:=0) Z).sub 1 2))) (cO (i:=16) (by kernel_rfl) ?_)))))
             refine ⟨_,131071,rfl,by kernel_rfl,?_⟩
             refine aU call224 (mayR_ _ rh.order e23.blk (by omega) (by omega)) Z Z Z ?_
             rintro _ w96 ⟨rfl,g97⟩
             have H98:=H93.grow g97
             have z99:=g97.size
             rcases hb100:(mayR rh.order e23.blk) with _ | _
             ·refine aM ?_
              refine ⟨H98,?_⟩
              refine zr 17 262143 Z (by kernel_rfl) H98 (fun wq hq=>bC (b:=false) Z) (zr 18 524287 Z (by kernel_rfl) H98 (fun wq hq=>bA (v:=bT) Z Z) (cQ (by kernel_rfl) (aQ (aE Z (cT (za bF Z (cS (aB (aR (inB.r (aR (aR (inB.r (aR (aO (v:=bF) (Ba Z Z) ?_)))))))))))))))
              have hrf : ¬ RightH h:=fun q=>by
                obtain ⟨_,_,_,q4,q5,_⟩:=q.2.2.2.1 i o25 ho26
                rw [← oR27.wl,← oR27.ll,← oR27.b] at q4
                rw [← oR27.b,← hord] at q5
                first | exact hb100 q4 | (rw [hb100] at q5; cases q5)
              exact ⟨At (heap_no hrf).symm,(H98.fix (i:=2) Z)⟩
             ·have hmt:=mayR_bd hb100 (by omega)
              refine aM ?_
              refine ⟨H98,?_⟩
              refine zr 17 262143 Z (by kernel_rfl) H98 (fun wq hq=>bC (b:=true) Z) (zr 18 524287 Z (by kernel_rfl) H98 (fun wq hq=>bA (v:=bF) Z Z) (cQ (by kernel_rfl) (aQ (aF Z (aA (aQ (cT (za (J 0) Z (cS (aG ?_))))))))))
              refine aK (fun t=>Nat.beq t 2 || Nat.beq t 5 || (Nat.ble 90 t && Nat.ble t 104)) (fun nL ρ wl => ∃ (j:Nat),ρ 5 = (J (j:Int))∧nL = e23.links.n - j∧Sp [Aa b38 136 e23.cells,Aa b2 47 rh.cells,Bd w Bl] wl∧j ≤ e23.links.n ∧ ∀ (j2:Nat) (t:Int),j2 < j → o25.links[j2]? = some t → leadR h t = true) (e23.links.n) ?aa1 ?bb1
              case aa1 =>
               exact ⟨0,rfl,rfl,H98,Nat.zero_le _,fun j x hj=>by omega⟩
              case bb1 =>
               rintro n102 ρ1 w101 ho103 ⟨j,hs1_5,hn1,H104,hj,hlk⟩
               obtain ⟨j1,rfl⟩:=ho103.shape1 hs1_5
               clear ho103 hs1_5
               subst hn1
               have z105:=(H104.fix (i:=2) rfl).size
               refine aD (cT (zm (J (j:Int)) Z (zg Z (fa136_3 (b:=⟨b38,4,none⟩) Z Z) (zl (.slice e23.links.a e23.links.n e23.links.c) lo134 (H104.ob (i:=0) Z) Z (zg Z (bR underlying134 Z) ?_)))))
               refine zc (((j:Int):Int) < ((e23.links.n:Nat):Int)) Z (fun r hr=>bL Z Z hr) (fun h106=>?_) (fun h106=>?_)
               ·refine cS (aE Z (aA (aQ (aD (aG (aD (cN (fun wq=>Sp [Aa b38 136 e23.cells,Aa b2 47 rh.cells,Bd w Bl] wq) Tryz.mixed Z ?_)))))))
                intro w107 g108
                have H109:=H104.grow g108
                have z110:=g108.size
                refine zr 1 2 Z (by kernel_rfl) H109 (fun wq hq=>fa136_3 (b:=⟨b38,4,none⟩) Z Z) (zr 3 10 Z (by kernel_rfl) H109 (fun wq hq=>aX (v:=(J (j:Int))) Z) (zr 0 11 Z (by kernel_rfl) H109 (fun wq hq=>bW Z (Aj (cs:=rh.cells) wh47 (hq.ob (i:=1) Z).cl)) (zr 2 15 Z (by kernel_rfl) H109 (fun wq hq=>bW Z (Ax lo134 (Ob.cell (v:=(.slice e23.links.a e23.links.n e23.links.c)) (hq.ob (i:=0) Z) Z))) ?_)))
                obtain ⟨e111,he112⟩ : ∃ e,(o25.links)[j]? = some e:=⟨_,List.getElem?_eq_getElem (by omega)⟩
                obtain ⟨ad113,hA114⟩:=Rd.sm (oR27.rl.st0 (H109.fix (i:=2) rfl)) (ics_get he112)
                have hl115:=Eng.lt_len (ics_get he112)
                refine zr 4 31 Z (by kernel_rfl) H109 (fun wq hq=>bS (b:=(ad113.add (j * 1))) (i:=j) underlying134 sizeOf3 (by rw [← hA114]; rfl) Z (by omega) (by omega) Z) (zr 5 63 Z (by kernel_rfl) H109 (fun wq hq=>bW Z (Ax Bw (Cl.at_ (v:=(J e111)) (Rd.cl (oR27.rl.st0 (hq.fix (i:=2) Z)) hA114 (ics_get he112)) (i:=0) Z))) (cO (i:=6) (by kernel_rfl) ?_))
                refine ⟨_,127,rfl,by kernel_rfl,?_⟩
                refine aU call225 (leadsR_ _ _ rh _ _ (H.st0 (H109.fix (i:=2) Z)) (by omega) e111) Z Z Z ?_
                rintro _ w116 ⟨rfl,g117⟩
                have H118:=H109.grow g117
                have z119:=g117.size
                rcases hb120:(leadR h e111) with _ | _
                ·refine aM ?_
                 refine ⟨H118,?_⟩
                 refine zr 7 255 Z (by kernel_rfl) H118 (fun wq hq=>bC (b:=false) Z) (cQ (by kernel_rfl) (aQ (aE Z (cT (za bF Z (cS (aB (inB.r (aR (aR (inB.r (inB.r (aR (aR (inB.r (aR (aO (v:=bF) (Ba Z Z) ?_)))))))))))))))))
                 have hrf : ¬ RightH h:=fun q=>leadR_f hb120 ((q.2.2.2.1 i o25 ho26).2.2.2.2.2 e111 (List.mem_of_getElem? he112))
                 exact ⟨At (heap_no hrf).symm,(H118.fix (i:=2) Z)⟩
                ·refine aM ?_
                 refine ⟨H118,?_⟩
                 refine zr 7 255 Z (by kernel_rfl) H118 (fun wq hq=>bC (b:=true) Z) (cQ (by kernel_rfl) (aQ (aF Z (aA (inB.n (aQ (aL (zm (J (j:Int)) Z (zg Z (bI (r:=(j:Int) + 1) Z Z (Dl (by omega) (by omega))) (za (J ((j:Int) + 1)) Z (cS ?_)))))))))))
                 refine ⟨(by repeat (first | exact aJ _ _ | exact aH _ _ | refine aI ?_ Z _ | refine cR ?_ (by intro t ht; simp only [Bool.or_eq_false_iff,Bool.and_eq_false_iff,ble_f,beq_f] at ht ⊢; omega))),_,?_,j + 1,rfl,rfl,H118,by omega,upto_go (p:=fun _ t=>leadR h t = true) hlk he112 hb120⟩
                 omega
               ·refine cS (aF Z (aC (aS (aS (Bo (inB.n (aQ (aL (zm (J (i:Int)) Z (zg Z (bI (r:=(i:Int) + 1) Z Z (Dl (by omega) (by omega))) (za (J ((i:Int) + 1)) Z (cS ?_))))))))))))
                have hok:objOK h i o25:=⟨by omega,by omega,(fun y _ hy=>by rw [ho66] at hy; injection hy with hy; subst hy; rw [← oR67.h,← oR27.h]; omega),by rw [← oR27.wl,← oR27.ll,← oR27.b]; exact Decidable.not_not.1 h95,by rw [← hord,← oR27.b]; exact hb100,fun t ht=>by obtain ⟨j2,hj2⟩:=List.mem_iff_getElem?.1 ht; exact leadR_t (hlk j2 t (by have:=lt_len hj2; omega) hj2)⟩
                refine ⟨(by repeat (first | exact aJ _ _ | exact aH _ _ | refine aI ?_ Z _ | refine cR ?_ (by intro t ht; simp only [Bool.or_eq_false_iff,Bool.and_eq_false_iff,ble_f,beq_f] at ht ⊢; omega))),_,?_,i + 1,rfl,rfl,(H104.sel [1,2] (by decide) Z),by omega,upto_go hO ho26 hok⟩
                omega
          ·refine QL.go Z Z Z (fun wq gq=>aX (v:=bF) Z) (QL.out Z Z Z (QL.out Z Z Z (QL.out Z Z Z (QL.out Z Z Z (QL.out Z Z Z (QL.out Z Z Z (QL.out Z Z Z (QL.out Z Z Z (QL.out Z Z Z (QL.out Z Z Z ?_))))))))))
           refine QL.go Z Z Z (fun wq gq=>bA (v:=bF) Z Z) (QL.go Z Z Z (fun wq gq=>bA (v:=bF) Z Z) (QL.nil ?_))
           intro w121 g122
           have H123:=H49.grow g122
           have z124:=g122.size
           refine aQ (aF Z (aA (aQ (aD (aD (cN (fun wq=>Sp [Aa b38 136 e23.cells,Aa b2 47 rh.cells,Bd w Bl] wq) Tryz.mixed Z ?_))))))
           intro w125 g126
           have H127:=H123.grow g126
           have z128:=g126.size
           refine zr 0 1 Z (by kernel_rfl) H127 (fun wq hq=>fa136_2 (b:=⟨b38,3,none⟩) Z Z) (zr 3 9 Z (by kernel_rfl) H127 (fun wq hq=>fa136_3 (b:=⟨b38,4,none⟩) Z Z) (zr 7 137 Z (by kernel_rfl) H127 (fun wq hq=>fa136_1 (b:=⟨b38,1,none⟩) Z Z) (zr 8 393 Z (by kernel_rfl) H127 (fun wq hq=>Cg (b:=⟨b38,2,none⟩) Z Z) (zr 1 395 Z (by kernel_rfl) H127 (fun wq hq=>bW Z (Ax lo134 (Ob.cell (v:=(.slice e23.words.a e23.words.n e23.words.c)) (hq.ob (i:=0) Z) Z))) (zr 2 399 Z (by kernel_rfl) H127 (fun wq hq=>bR underlying134 Z) (zr 4 415 Z (by kernel_rfl) H127 (fun wq hq=>bW Z (Ax lo134 (Ob.cell (v:=(.slice e23.links.a e23.links.n e23.links.c)) (hq.ob (i:=0) Z) Z))) (zr 5 447 Z (by kernel_rfl) H127 (fun wq hq=>bR underlying134 Z) (zr 9 959 Z (by kernel_rfl) H127 (fun wq hq=>bW Z (Ax Bw (Ob.cell (v:=(J e23.blk.ord)) (hq.ob (i:=0) Z) Z))) ?_))))))))
           refine cO (i:=6) (by kernel_rfl) ?_
           refine ⟨_,1023,rfl,by kernel_rfl,?_⟩
           have hnb129:=needI_bd ((e23.words.n:Nat):Int) ((e23.links.n:Nat):Int)
           refine aU call223 (needR_ _ ((e23.words.n:Nat):Int) ((e23.links.n:Nat):Int)) Z Z Z ?_
           rintro _ w130 ⟨rfl,g131⟩
           have H132:=H127.grow g131
           have z133:=g131.size
           refine aM ?_
           refine ⟨H132,?_⟩
           refine zb 10 2047 (((By ((e23.words.n:Nat):Int) ((e23.links.n:Nat):Int)):Int) ≠ (e23.blk.ord:Int)) Z (by kernel_rfl) H132 (fun r hr wq hq=>bQ Z Z hr) (fun h134=>?_) (fun h134=>?_)
           ·refine zr 11 4095 Z (by kernel_rfl) H132 (fun wq hq=>aX (v:=bT) Z) (zq 12 8191 Z (by kernel_rfl) H132 (zq 14 24575 Z (by kernel_rfl) H132 (zq 13 32767 Z (by kernel_rfl) H132 (zq 15 65535 Z (by kernel_rfl) H132 (zq 16 131071 Z (by kernel_rfl) H132 (zq 17 262143 Z (by kernel_rfl) H132 (zr 18 524287 Z (by kernel_rfl) H132 (fun wq hq=>aZ (v:=bT) Z Z) (cQ (by kernel_rfl) (aQ (aE Z (cT ?_)))))))))))
            refine za bF Z (cS (aB (aR (inB.r (aR (aR (inB.r (aR (aO (v:=bF) (Ba Z Z) ?_)))))))))
            have hrf : ¬ RightH h:=fun q=>by
              obtain ⟨_,_,_,q4,q5,_⟩:=q.2.2.2.1 i o25 ho26
              rw [← oR27.wl,← oR27.ll,← oR27.b] at q4
              rw [← oR27.b,← hord] at q5
              first | exact h134 q4 | (rw [h134] at q5; cases q5)
            exact ⟨At (heap_no hrf).symm,(H132.fix (i:=2) Z)⟩
           ·refine zr 11 4095 Z (by kernel_rfl) H132 (fun wq hq=>aX (v:=bF) Z) (zr 12 8191 Z (by kernel_rfl) H132 (fun wq hq=>fa47_0 (b:=⟨b2,0,none⟩) Z Z) (zr 14 24575 Z (by kernel_rfl) H132 (fun wq hq=>fa136_1 (b:=⟨b38,1,none⟩) Z Z) (zr 13 32767 Z (by kernel_rfl) H132 (fun wq hq=>bW Z (Ax Bw (Ob.cell (v:=(J rh.order)) (hq.ob (i:=1) Z) Z))) (zr 15 65535 Z (by kernel_rfl) H132 (fun wq hq=>bW Z (Aj (cs:=[(J e23.blk.at_),(J e23.blk.ord)]) wh133 ((hq.ob (i:=0) Z).sub 1 2))) (cO (i:=16) (by kernel_rfl) ?_)))))
            refine ⟨_,131071,rfl,by kernel_rfl,?_⟩
            refine aU call224 (mayR_ _ rh.order e23.blk (by omega) (by omega)) Z Z Z ?_
            rintro _ w135 ⟨rfl,g136⟩
            have H137:=H132.grow g136
            have z138:=g136.size
            rcases hb139:(mayR rh.order e23.blk) with _ | _
            ·refine aM ?_
             refine ⟨H137,?_⟩
             refine zr 17 262143 Z (by kernel_rfl) H137 (fun wq hq=>bC (b:=false) Z) (zr 18 524287 Z (by kernel_rfl) H137 (fun wq hq=>bA (v:=bT) Z Z) (cQ (by kernel_rfl) (aQ (aE Z (cT (za bF Z (cS (aB (aR (inB.r (aR (aR (inB.r (aR (aO (v:=bF) (Ba Z Z) ?_)))))))))))))))
             have hrf : ¬ RightH h:=fun q=>by
               obtain ⟨_,_,_,q4,q5,_⟩:=q.2.2.2.1 i o25 ho26
               rw [← oR27.wl,← oR27.ll,← oR27.b] at q4
               rw [← oR27.b,← hord] at q5
               first | exact hb139 q4 | (rw [hb139] at q5; cases q5)
             exact ⟨At (heap_no hrf).symm,(H137.fix (i:=2) Z)⟩
            ·have hmt:=mayR_bd hb139 (by omega)
             refine aM ?_
             refine ⟨H137,?_⟩
             refine zr 17 262143 Z (by kernel_rfl) H137 (fun wq hq=>bC (b:=true) Z) (zr 18 524287 Z (by kernel_rfl) H137 (fun wq hq=>bA (v:=bF) Z Z) (cQ (by kernel_rfl) (aQ (aF Z (aA (aQ (cT (za (J 0) Z (cS (aG ?_))))))))))
             refine aK (fun t=>Nat.beq t 2 || Nat.beq t 5 || (Nat.ble 90 t && Nat.ble t 104)) (fun nL ρ wl => ∃ (j:Nat),ρ 5 = (J (j:Int))∧nL = e23.links.n - j∧Sp [Aa b38 136 e23.cells,Aa b2 47 rh.cells,Bd w Bl] wl∧j ≤ e23.links.n ∧ ∀ (j2:Nat) (t:Int),j2 < j → o25.links[j2]? = some t → leadR h t = true) (e23.links.n) ?aa1 ?bb1
             case aa1 =>
              exact ⟨0,rfl,rfl,H137,Nat.zero_le _,fun j x hj=>by omega⟩
             case bb1 =>
              rintro n141 ρ1 w140 ho142 ⟨j,hs1_5,hn1,H143,hj,hlk⟩
              obtain ⟨j1,rfl⟩:=ho142.shape1 hs1_5
              clear ho142 hs1_5
              subst hn1
              have z144:=(H143.fix (i:=2) rfl).size
              refine aD (cT (zm (J (j:Int)) Z (zg Z (fa136_3 (b:=⟨b38,4,none⟩) Z Z) (zl (.slice e23.links.a e23.links.n e23.links.c) lo134 (H143.ob (i:=0) Z) Z (zg Z (bR underlying134 Z) ?_)))))
              refine zc (((j:Int):Int) < ((e23.links.n:Nat):Int)) Z (fun r hr=>bL Z Z hr) (fun h145=>?_) (fun h145=>?_)
              ·refine cS (aE Z (aA (aQ (aD (aG (aD (cN (fun wq=>Sp [Aa b38 136 e23.cells,Aa b2 47 rh.cells,Bd w Bl] wq) Tryz.mixed Z ?_)))))))
               intro w146 g147
               have H148:=H143.grow g147
               have z149:=g147.size
               refine zr 1 2 Z (by kernel_rfl) H148 (fun wq hq=>fa136_3 (b:=⟨b38,4,none⟩) Z Z) (zr 3 10 Z (by kernel_rfl) H148 (fun wq hq=>aX (v:=(J (j:Int))) Z) (zr 0 11 Z (by kernel_rfl) H148 (fun wq hq=>bW Z (Aj (cs:=rh.cells) wh47 (hq.ob (i:=1) Z).cl)) (zr 2 15 Z (by kernel_rfl) H148 (fun wq hq=>bW Z (Ax lo134 (Ob.cell (v:=(.slice e23.links.a e23.links.n e23.links.c)) (hq.ob (i:=0) Z) Z))) ?_)))
               obtain ⟨e150,he151⟩ : ∃ e,(o25.links)[j]? = some e:=⟨_,List.getElem?_eq_getElem (by omega)⟩
               obtain ⟨ad152,hA153⟩:=Rd.sm (oR27.rl.st0 (H148.fix (i:=2) rfl)) (ics_get he151)
               have hl154:=Eng.lt_len (ics_get he151)
               refine zr 4 31 Z (by kernel_rfl) H148 (fun wq hq=>bS (b:=(ad152.add (j * 1))) (i:=j) underlying134 sizeOf3 (by rw [← hA153]; rfl) Z (by omega) (by omega) Z) (zr 5 63 Z (by kernel_rfl) H148 (fun wq hq=>bW Z (Ax Bw (Cl.at_ (v:=(J e150)) (Rd.cl (oR27.rl.st0 (hq.fix (i:=2) Z)) hA153 (ics_get he151)) (i:=0) Z))) (cO (i:=6) (by kernel_rfl) ?_))
               refine ⟨_,127,rfl,by kernel_rfl,?_⟩
               refine aU call225 (leadsR_ _ _ rh _ _ (H.st0 (H148.fix (i:=2) Z)) (by omega) e150) Z Z Z ?_
               rintro _ w155 ⟨rfl,g156⟩
               have H157:=H148.grow g156
               have z158:=g156.size
               rcases hb159:(leadR h e150) with _ | _
               ·refine aM ?_
                refine ⟨H157,?_⟩
                refine zr 7 255 Z (by kernel_rfl) H157 (fun wq hq=>bC (b:=false) Z) (cQ (by kernel_rfl) (aQ (aE Z (cT (za bF Z (cS (aB (inB.r (aR (aR (inB.r (inB.r (aR (aR (inB.r (aR (aO (v:=bF) (Ba Z Z) ?_)))))))))))))))))
                have hrf : ¬ RightH h:=fun q=>leadR_f hb159 ((q.2.2.2.1 i o25 ho26).2.2.2.2.2 e150 (List.mem_of_getElem? he151))
                exact ⟨At (heap_no hrf).symm,(H157.fix (i:=2) Z)⟩
               ·refine aM ?_
                refine ⟨H157,?_⟩
                refine zr 7 255 Z (by kernel_rfl) H157 (fun wq hq=>bC (b:=true) Z) (cQ (by kernel_rfl) (aQ (aF Z (aA (inB.n (aQ (aL (zm (J (j:Int)) Z (zg Z (bI (r:=(j:Int) + 1) Z Z (Dl (by omega) (by omega))) (za (J ((j:Int) + 1)) Z (cS ?_)))))))))))
                refine ⟨(by repeat (first | exact aJ _ _ | exact aH _ _ | refine aI ?_ Z _ | refine cR ?_ (by intro t ht; simp only [Bool.or_eq_false_iff,Bool.and_eq_false_iff,ble_f,beq_f] at ht ⊢; omega))),_,?_,j + 1,rfl,rfl,H157,by omega,upto_go (p:=fun _ t=>leadR h t = true) hlk he151 hb159⟩
                omega
              ·refine cS (aF Z (aC (aS (aS (Bo (inB.n (aQ (aL (zm (J (i:Int)) Z (zg Z (bI (r:=(i:Int) + 1) Z Z (Dl (by omega) (by omega))) (za (J ((i:Int) + 1)) Z (cS ?_))))))))))))
               have hok:objOK h i o25:=⟨by omega,by omega,(fun y hi0 hy=>by omega),by rw [← oR27.wl,← oR27.ll,← oR27.b]; exact Decidable.not_not.1 h134,by rw [← hord,← oR27.b]; exact hb139,fun t ht=>by obtain ⟨j2,hj2⟩:=List.mem_iff_getElem?.1 ht; exact leadR_t (hlk j2 t (by have:=lt_len hj2; omega) hj2)⟩
               refine ⟨(by repeat (first | exact aJ _ _ | exact aH _ _ | refine aI ?_ Z _ | refine cR ?_ (by intro t ht; simp only [Bool.or_eq_false_iff,Bool.and_eq_false_iff,ble_f,beq_f] at ht ⊢; omega))),_,?_,i + 1,rfl,rfl,(H143.sel [1,2] (by decide) Z),by omega,upto_go hO ho26 hok⟩
               omega
       ·refine cS (aF Z (aC (aS (aS (Bo (aQ (aD ?_)))))))
        have hbk:=hb_may hbu2 (n:=i) (by omega) hO
        have hfl2:=Bc h.order
        refine aL (zg Z (bW Z (Aj (cs:=rh.cells) wh47 (H20.ob (i:=0) Z).cl)) (aU call226 (blocks_ _ _ rh _ _ (H.st0 (H20.fix (i:=1) Z)) (by omega) (by omega) (by omega)) Z Z Z ?_))
        rintro _ w163 ⟨A160,n161,c162,rfl,g164⟩
        have g165:=g164.fix (i:=1) rfl
        have H166:Sp [Ai 133 2 A160 n161 c162 (Cq h.blocks),Aa b2 47 rh.cells,Bd w Bl] w163:=H20.join (m:=[Ai 133 2 A160 n161 c162 (Cq h.blocks)]) g164
        have z167:=g165.size
        refine za (.slice A160 n161 c162) Z (cS (aD (aD ?_)))
        have hl6:=H166.len (i:=0) rfl
        rw [Am] at hl6
        have hl6b:h.blocks.length = h.free.length + h.objs.length:=by unfold Heap.blocks; rw [List.length_append,List.length_map]
        refine aL (za (J 0) Z (cS (aG ?_)))
        refine aK (fun t=>Nat.beq t 2 || (Nat.ble 7 t && Nat.ble t 8) || (Nat.ble 107 t && Nat.ble t 126)) (fun nL ρ wl => ∃ (i2:Nat),ρ 7 = (J (i2:Int))∧nL = n161 - i2∧Sp [Ai 133 2 A160 n161 c162 (Cq h.blocks),Aa b2 47 rh.cells,Bd w Bl] wl∧i2 ≤ n161 ∧ ∀ (j:Nat) (x:Blk),j < i2 → h.blocks[j]? = some x → ∀ (k:Nat) (y:Blk),k < j → h.blocks[k]? = some y → meetB x y = false) (n161) ?aa2 ?bb2
        case aa2 =>
         exact ⟨0,rfl,rfl,H166,Nat.zero_le _,fun j x hj=>by omega⟩
        case bb2 =>
         rintro n169 ρ2 w168 ho170 ⟨i2,hs2_7,hn2,H171,hi2,hP⟩
         obtain ⟨j2,rfl⟩:=ho170.shape1 hs2_7
         clear ho170 hs2_7
         subst hn2
         have z172:=(H171.fix (i:=2) rfl).size
         refine aD (cT (zm (J (i2:Int)) Z (zm (.slice A160 n161 c162) Z (zg Z (bR underlying45 Z) ?_))))
         refine zc (((i2:Int):Int) < ((n161:Nat):Int)) Z (fun r hr=>bL Z Z hr) (fun h173=>?_) (fun h173=>?_)
         ·refine cS (aE Z (aA (aQ (aD (aG (cT (za (J 0) Z (cS (aG ?_)))))))))
          obtain ⟨ei,hei⟩ : ∃ e,(h.blocks)[i2]? = some e:=⟨_,List.getElem?_eq_getElem (by omega)⟩
          have hmi:=mayR_bd (hbk ei (List.mem_of_getElem? hei)) (by omega)
          refine aK (fun t=>Nat.beq t 2 || Nat.beq t 8 || (Nat.ble 113 t && Nat.ble t 126)) (fun nL ρ wl => ∃ (k2:Nat),ρ 8 = (J (k2:Int))∧nL = i2 - k2∧Sp [Ai 133 2 A160 n161 c162 (Cq h.blocks),Aa b2 47 rh.cells,Bd w Bl] wl∧k2 ≤ i2 ∧ ∀ (k:Nat) (y:Blk),k < k2 → h.blocks[k]? = some y → meetB ei y = false) (i2) ?aa3 ?bb3
          case aa3 =>
           exact ⟨0,rfl,rfl,H171,Nat.zero_le _,fun j x hj=>by omega⟩
          case bb3 =>
           rintro n175 ρ3 w174 ho176 ⟨k2,hs3_8,hn3,H177,hk2,hin⟩
           obtain ⟨j3,rfl⟩:=ho176.shape1 hs3_8
           clear ho176 hs3_8
           subst hn3
           have z178:=(H177.fix (i:=2) rfl).size
           refine aD (cT (zm (J (k2:Int)) Z (zm (J (i2:Int)) Z ?_)))
           refine zc (((k2:Int):Int) < ((i2:Int):Int)) Z (fun r hr=>bL Z Z hr) (fun h179=>?_) (fun h179=>?_)
           ·refine cS (aE Z (aA (aQ (aD (aG (aD (cN (fun wq=>Sp [Ai 133 2 A160 n161 c162 (Cq h.blocks),Aa b2 47 rh.cells,Bd w Bl] wq) Tryz.mixed Z ?_)))))))
            intro w180 g181
            have H182:=H177.grow g181
            have z183:=g181.size
            refine zr 0 1 Z (by kernel_rfl) H182 (fun wq hq=>aX (v:=(.slice A160 n161 c162)) Z) (zr 1 3 Z (by kernel_rfl) H182 (fun wq hq=>aX (v:=(J (i2:Int))) Z) (zr 4 19 Z (by kernel_rfl) H182 (fun wq hq=>aX (v:=(.slice A160 n161 c162)) Z) (zr 5 51 Z (by kernel_rfl) H182 (fun wq hq=>aX (v:=(J (k2:Int))) Z) ?_)))
            obtain ⟨ad184,hA185⟩:=Rd.sm (H182.rowrd (i:=0) rfl) (Ca hei)
            have hl186:=Eng.lt_len (Ca hei)
            refine zr 2 55 Z (by kernel_rfl) H182 (fun wq hq=>bS (b:=(ad184.add (i2 * 2))) (i:=i2) underlying45 sizeOf133 (by rw [← hA185]; rfl) Z (by omega) (by omega) Z) (zr 3 63 Z (by kernel_rfl) H182 (fun wq hq=>bW Z (Aj (cs:=ei.cells) wh133 (Rd.cl (hq.rowrd (i:=0) Z) hA185 (Ca hei)))) ?_)
            obtain ⟨e187,he188⟩ : ∃ e,(h.blocks)[k2]? = some e:=⟨_,List.getElem?_eq_getElem (by omega)⟩
            obtain ⟨ad189,hA190⟩:=Rd.sm (H182.rowrd (i:=0) rfl) (Ca he188)
            have hl191:=Eng.lt_len (Ca he188)
            refine zr 6 127 Z (by kernel_rfl) H182 (fun wq hq=>bS (b:=(ad189.add (k2 * 2))) (i:=k2) underlying45 sizeOf133 (by rw [← hA190]; rfl) Z (by omega) (by omega) Z) (zr 7 255 Z (by kernel_rfl) H182 (fun wq hq=>bW Z (Aj (cs:=e187.cells) wh133 (Rd.cl (hq.rowrd (i:=0) Z) hA190 (Ca he188)))) (cO (i:=8) (by kernel_rfl) ?_))
            refine ⟨_,511,rfl,by kernel_rfl,?_⟩
            have hmk:=mayR_bd (hbk e187 (List.mem_of_getElem? he188)) (by omega)
            refine aU call227 (meet_ _ ei e187 (by first | assumption | (constructor <;> (first | omega | (show _ ≤ _; omega)))) (by first | assumption | (constructor <;> (first | omega | (show _ ≤ _; omega)))) (by first | assumption | (constructor <;> (first | omega | (show _ ≤ _; omega)))) (by first | assumption | (constructor <;> (first | omega | (show _ ≤ _; omega))))) Z Z Z ?_
            rintro _ w192 ⟨rfl,g193⟩
            have H194:=H182.grow g193
            have z195:=g193.size
            rcases hb196:(meetB ei e187) with _ | _
            ·refine aM ?_
             refine ⟨H194,?_⟩
             refine cQ (by kernel_rfl) (aQ (aF Z (aA (inB.n (aQ (aL (zm (J (k2:Int)) Z (zg Z (bI (r:=(k2:Int) + 1) Z Z (Dl (by omega) (by omega))) (za (J ((k2:Int) + 1)) Z (cS ?_))))))))))
             refine ⟨(by repeat (first | exact aJ _ _ | exact aH _ _ | refine aI ?_ Z _ | refine cR ?_ (by intro t ht; simp only [Bool.or_eq_false_iff,Bool.and_eq_false_iff,ble_f,beq_f] at ht ⊢; omega))),_,?_,k2 + 1,rfl,rfl,H194,by omega,upto_go (p:=fun _ y=>meetB ei y = false) hin he188 hb196⟩
             omega
            ·refine aM ?_
             refine ⟨H194,?_⟩
             refine cQ (by kernel_rfl) (aQ (aE Z (cT (za bF Z (cS (aB (inB.r (aR (aR (inB.r (inB.r (aR (aR (inB.r (aR (aO (v:=bF) (Ba Z Z) ?_))))))))))))))))
             have hrf : ¬ RightH h:=fun q=>by have q1:=pw_at q.2.2.2.2.1 (show k2 < i2 by omega) he188 hei; rw [hb196] at q1; cases q1
             exact ⟨At (heap_no hrf).symm,(H194.fix (i:=2) Z)⟩
           ·refine cS (aF Z (aC (aS (aS (Bo (inB.n (aQ (aL (zm (J (i2:Int)) Z (zg Z (bI (r:=(i2:Int) + 1) Z Z (Dl (by omega) (by omega))) (za (J ((i2:Int) + 1)) Z (cS ?_))))))))))))
            refine ⟨(by repeat (first | exact aJ _ _ | exact aH _ _ | refine aI ?_ Z _ | refine cR ?_ (by intro t ht; simp only [Bool.or_eq_false_iff,Bool.and_eq_false_iff,ble_f,beq_f] at ht ⊢; omega))),_,?_,i2 + 1,rfl,rfl,H177,by omega,upto_go hP hei (fun k y hk hy=>hin k y (by omega) hy)⟩
            omega
         ·refine cS (aF Z (aC (aS (aS (Bo (aQ (aD (cT (za (J 0) Z (cS (aG (cJ (Dd (aD (cT (zm (J 0) Z (zg Z (bL (r:=true) Z Z (by decide)) (cS (aE Z (aA (aQ (aD (aG (aD (cN (fun wq=>Sp [Ai 133 2 A160 n161 c162 (Cq h.blocks),Aa b2 47 rh.cells,Bd w Bl] wq) Tryz.mixed Z ?_)))))))))))))))))))))))))
          intro w197 g198
          have H199:=H171.grow g198
          have z200:=g198.size
          refine zr 1 2 Z (by kernel_rfl) H199 (fun wq hq=>aX (v:=(J 0)) Z) (zr 2 6 Z (by kernel_rfl) H199 (fun wq hq=>fa47_3 (b:=⟨b2,3,none⟩) Z Z) (zr 0 7 Z (by kernel_rfl) H199 (fun wq hq=>bW Z (Aj (cs:=rh.cells) wh47 (hq.ob (i:=1) Z).cl)) (zr 3 15 Z (by kernel_rfl) H199 (fun wq hq=>cI (b:=⟨b2,3,none⟩) (i:=0) underlying44 sizeOf3 Z Z Z Z Z) (zr 4 31 Z (by kernel_rfl) H199 (fun wq hq=>bW Z (Ax Bw (Ob.cell (v:=(J rh.t0)) (hq.ob (i:=1) Z) Z))) (cO (i:=5) (by kernel_rfl) ?_)))))
          refine ⟨_,63,rfl,by kernel_rfl,?_⟩
          refine aU call225 (leadsR_ _ _ rh _ _ (H.st0 (H199.fix (i:=2) Z)) (by omega) rh.t0) Z Z Z ?_
          rintro _ w201 ⟨rfl,g202⟩
          have H203:=H199.grow g202
          have z204:=g202.size
          rcases hb205:(leadR h rh.t0) with _ | _
          ·refine aM ?_
           refine ⟨H203,?_⟩
           refine zr 6 127 Z (by kernel_rfl) H203 (fun wq hq=>bC (b:=false) Z) (cQ (by kernel_rfl) (aQ (aE Z (cT (za bF Z (cS (aB (inB.r (aR (aR (inB.r (aR (aO (v:=bF) (Ba Z Z) ?_)))))))))))))
           have hrf : ¬ RightH h:=fun q=>leadR_f hb205 (q.2.2.2.2.2.1 _ (by rw [← H.tops]; simp))
           exact ⟨At (heap_no hrf).symm,(H203.fix (i:=2) Z)⟩
          ·refine aM ?_
           refine ⟨H203,?_⟩
           refine zr 6 127 Z (by kernel_rfl) H203 (fun wq hq=>bC (b:=true) Z) (cQ (by kernel_rfl) (aQ (aF Z (aA (inB.n (aQ (aL (zm (J 0) Z (zg Z (bI (r:=1) Z Z Z) (za (J 1) Z (cS (Dd (aD (cT ?_))))))))))))))
           refine zm (J 1) Z (zg Z (bL (r:=true) Z Z (by decide)) (cS (aE Z (aA (aQ (aD (aG (aD (cN (fun wq=>Sp [Ai 133 2 A160 n161 c162 (Cq h.blocks),Aa b2 47 rh.cells,Bd w Bl] wq) Tryz.mixed Z ?_)))))))))
           intro w206 g207
           have H208:=H203.grow g207
           have z209:=g207.size
           refine zr 1 2 Z (by kernel_rfl) H208 (fun wq hq=>aX (v:=(J 1)) Z) (zr 2 6 Z (by kernel_rfl) H208 (fun wq hq=>fa47_3 (b:=⟨b2,3,none⟩) Z Z) (zr 0 7 Z (by kernel_rfl) H208 (fun wq hq=>bW Z (Aj (cs:=rh.cells) wh47 (hq.ob (i:=1) Z).cl)) (zr 3 15 Z (by kernel_rfl) H208 (fun wq hq=>cI (b:=⟨b2,4,none⟩) (i:=1) underlying44 sizeOf3 Z Z Z Z Z) (zr 4 31 Z (by kernel_rfl) H208 (fun wq hq=>bW Z (Ax Bw (Ob.cell (v:=(J rh.t1)) (hq.ob (i:=1) Z) Z))) (cO (i:=5) (by kernel_rfl) ?_)))))
           refine ⟨_,63,rfl,by kernel_rfl,?_⟩
           refine aU call225 (leadsR_ _ _ rh _ _ (H.st0 (H208.fix (i:=2) Z)) (by omega) rh.t1) Z Z Z ?_
           rintro _ w210 ⟨rfl,g211⟩
           have H212:=H208.grow g211
           have z213:=g211.size
           rcases hb214:(leadR h rh.t1) with _ | _
           ·refine aM ?_
            refine ⟨H212,?_⟩
            refine zr 6 127 Z (by kernel_rfl) H212 (fun wq hq=>bC (b:=false) Z) (cQ (by kernel_rfl) (aQ (aE Z (cT (za bF Z (cS (aB (inB.r (aR (aR (inB.r (aR (aO (v:=bF) (Ba Z Z) ?_)))))))))))))
            have hrf : ¬ RightH h:=fun q=>leadR_f hb214 (q.2.2.2.2.2.1 _ (by rw [← H.tops]; simp))
            exact ⟨At (heap_no hrf).symm,(H212.fix (i:=2) Z)⟩
           ·refine aM ?_
            refine ⟨H212,?_⟩
            refine zr 6 127 Z (by kernel_rfl) H212 (fun wq hq=>bC (b:=true) Z) (cQ (by kernel_rfl) (aQ (aF Z (aA (inB.n (aQ (aL (zm (J 1) Z (zg Z (bI (r:=2) Z Z Z) (za (J 2) Z (cS (Dd (aD (cT ?_))))))))))))))
            refine zm (J 2) Z (zg Z (bL (r:=true) Z Z (by decide)) (cS (aE Z (aA (aQ (aD (aG (aD (cN (fun wq=>Sp [Ai 133 2 A160 n161 c162 (Cq h.blocks),Aa b2 47 rh.cells,Bd w Bl] wq) Tryz.mixed Z ?_)))))))))
            intro w215 g216
            have H217:=H212.grow g216
            have z218:=g216.size
            refine zr 1 2 Z (by kernel_rfl) H217 (fun wq hq=>aX (v:=(J 2)) Z) (zr 2 6 Z (by kernel_rfl) H217 (fun wq hq=>fa47_3 (b:=⟨b2,3,none⟩) Z Z) (zr 0 7 Z (by kernel_rfl) H217 (fun wq hq=>bW Z (Aj (cs:=rh.cells) wh47 (hq.ob (i:=1) Z).cl)) (zr 3 15 Z (by kernel_rfl) H217 (fun wq hq=>cI (b:=⟨b2,5,none⟩) (i:=2) underlying44 sizeOf3 Z Z Z Z Z) (zr 4 31 Z (by kernel_rfl) H217 (fun wq hq=>bW Z (Ax Bw (Ob.cell (v:=(J rh.t2)) (hq.ob (i:=1) Z) Z))) (cO (i:=5) (by kernel_rfl) ?_)))))
            refine ⟨_,63,rfl,by kernel_rfl,?_⟩
            refine aU call225 (leadsR_ _ _ rh _ _ (H.st0 (H217.fix (i:=2) Z)) (by omega) rh.t2) Z Z Z ?_
            rintro _ w219 ⟨rfl,g220⟩
            have H221:=H217.grow g220
            have z222:=g220.size
            rcases hb223:(leadR h rh.t2) with _ | _
            ·refine aM ?_
             refine ⟨H221,?_⟩
             refine zr 6 127 Z (by kernel_rfl) H221 (fun wq hq=>bC (b:=false) Z) (cQ (by kernel_rfl) (aQ (aE Z (cT (za bF Z (cS (aB (inB.r (aR (aR (inB.r (aR (aO (v:=bF) (Ba Z Z) ?_)))))))))))))
             have hrf : ¬ RightH h:=fun q=>leadR_f hb223 (q.2.2.2.2.2.1 _ (by rw [← H.tops]; simp))
             exact ⟨At (heap_no hrf).symm,(H221.fix (i:=2) Z)⟩
            ·refine aM ?_
             refine ⟨H221,?_⟩
             refine zr 6 127 Z (by kernel_rfl) H221 (fun wq hq=>bC (b:=true) Z) (cQ (by kernel_rfl) (aQ (aF Z (aA (inB.n (aQ (aL (zm (J 2) Z (zg Z (bI (r:=3) Z Z Z) (za (J 3) Z (cS (Dd (aD (cT ?_))))))))))))))
             refine zm (J 3) Z (zg Z (bL (r:=true) Z Z (by decide)) (cS (aE Z (aA (aQ (aD (aG (aD (cN (fun wq=>Sp [Ai 133 2 A160 n161 c162 (Cq h.blocks),Aa b2 47 rh.cells,Bd w Bl] wq) Tryz.mixed Z ?_)))))))))
             intro w224 g225
             have H226:=H221.grow g225
             have z227:=g225.size
             refine zr 1 2 Z (by kernel_rfl) H226 (fun wq hq=>aX (v:=(J 3)) Z) (zr 2 6 Z (by kernel_rfl) H226 (fun wq hq=>fa47_3 (b:=⟨b2,3,none⟩) Z Z) (zr 0 7 Z (by kernel_rfl) H226 (fun wq hq=>bW Z (Aj (cs:=rh.cells) wh47 (hq.ob (i:=1) Z).cl)) (zr 3 15 Z (by kernel_rfl) H226 (fun wq hq=>cI (b:=⟨b2,6,none⟩) (i:=3) underlying44 sizeOf3 Z Z Z Z Z) (zr 4 31 Z (by kernel_rfl) H226 (fun wq hq=>bW Z (Ax Bw (Ob.cell (v:=(J rh.t3)) (hq.ob (i:=1) Z) Z))) (cO (i:=5) (by kernel_rfl) ?_)))))
             refine ⟨_,63,rfl,by kernel_rfl,?_⟩
             refine aU call225 (leadsR_ _ _ rh _ _ (H.st0 (H226.fix (i:=2) Z)) (by omega) rh.t3) Z Z Z ?_
             rintro _ w228 ⟨rfl,g229⟩
             have H230:=H226.grow g229
             have z231:=g229.size
             rcases hb232:(leadR h rh.t3) with _ | _
             ·refine aM ?_
              refine ⟨H230,?_⟩
              refine zr 6 127 Z (by kernel_rfl) H230 (fun wq hq=>bC (b:=false) Z) (cQ (by kernel_rfl) (aQ (aE Z (cT (za bF Z (cS (aB (inB.r (aR (aR (inB.r (aR (aO (v:=bF) (Ba Z Z) ?_)))))))))))))
              have hrf : ¬ RightH h:=fun q=>leadR_f hb232 (q.2.2.2.2.2.1 _ (by rw [← H.tops]; simp))
              exact ⟨At (heap_no hrf).symm,(H230.fix (i:=2) Z)⟩
             ·refine aM ?_
              refine ⟨H230,?_⟩
              refine zr 6 127 Z (by kernel_rfl) H230 (fun wq hq=>bC (b:=true) Z) (cQ (by kernel_rfl) (aQ (aF Z (aA (inB.n (aQ (aL (zm (J 3) Z (zg Z (bI (r:=4) Z Z Z) (za (J 4) Z (cS (Dd (aD (cT ?_))))))))))))))
              refine zm (J 4) Z (zg Z (bL (r:=false) Z Z (by decide)) (cS (aF Z (aC (aS (aS (Bo (aQ (aD (cN (fun wq=>Sp [Ai 133 2 A160 n161 c162 (Cq h.blocks),Aa b2 47 rh.cells,Bd w Bl] wq) Tryz.mixed Z ?_))))))))))
              intro w233 g234
              have H235:=H230.grow g234
              have z236:=g234.size
              refine zr 0 1 Z (by kernel_rfl) H235 (fun wq hq=>aX (v:=(.slice A160 n161 c162)) Z) (zr 2 5 Z (by kernel_rfl) H235 (fun wq hq=>fa47_0 (b:=⟨b2,0,none⟩) Z Z) (zr 3 13 Z (by kernel_rfl) H235 (fun wq hq=>bW Z (Ax Bw (Ob.cell (v:=(J rh.order)) (hq.ob (i:=1) Z) Z))) (cO (i:=1) (by kernel_rfl) ?_)))
              refine ⟨_,15,rfl,by kernel_rfl,?_⟩
              refine aU call228 (wordsR_ _ w233.heap.size h.blocks A160 n161 c162 ((H235.rowrd (i:=0) Z).more (Nat.le_refl _)) (by first | assumption | omega) (Nat.le_refl _) (by omega) (fun b hb=>by have:=mayR_t.1 (hbk b hb); omega)) Z Z Z ?_
              rintro _ w238 ⟨rfl,g239⟩
              have H240:=H235.grow g239
              have z241:=g239.size
              refine aM ?_
              refine ⟨H240,?_⟩
              refine cO (i:=4) (by kernel_rfl) ?_
              refine ⟨_,31,rfl,by kernel_rfl,?_⟩
              have hz242:=Bc rh.order
              have hz243:=Bt (o:=rh.order) (by omega) (by omega)
              refine aU call229 (sz_ _ rh.order (by omega) (by omega)) Z Z Z ?_
              rintro _ w244 ⟨rfl,g245⟩
              have H246:=H240.grow g245
              have z247:=g245.size
              refine aM ?_
              refine ⟨H246,?_⟩
              refine zb 5 63 (((sumW h.blocks):Int) = ((Af rh.order):Int)) Z (by kernel_rfl) H246 (fun r hr wq hq=>bP Z Z hr) (fun h248=>?_) (fun h248=>?_)
              ·refine zr 6 127 Z (by kernel_rfl) H246 (fun wq hq=>aY (v:=bT) Z) (cQ (by kernel_rfl) (aQ (aB (aO (v:=bT) (Ba Z Z) ?_))))
               have htp : ∀ t ∈ h.tops,t = 0 ∨ t ∈ h.handles:=by
                 rw [← H.tops]; intro t ht; simp only [List.mem_cons,List.not_mem_nil,or_false] at ht
                 rcases ht with rfl | rfl | rfl | rfl
                 · exact leadR_t hb205
                 · exact leadR_t hb214
                 · exact leadR_t hb223
                 · exact leadR_t hb232
               have hrt:RightH h:=⟨hbu2,⟨by omega,by omega⟩,by omega,fun i3 x hx=>hO i3 x (by have:=lt_len hx; omega) hx,pw_of (n:=i2) (by omega) hP,htp,by rw [← hord]; exact h248⟩
               exact ⟨At ((heap_right h).2 hrt).symm,(H246.fix (i:=2) Z)⟩
              ·refine zr 6 127 Z (by kernel_rfl) H246 (fun wq hq=>aY (v:=bF) Z) (cQ (by kernel_rfl) (aQ (aB (aO (v:=bF) (Ba Z Z) ?_))))
               have hrf : ¬ RightH h:=fun q=>h248 (by rw [hord]; exact q.2.2.2.2.2.2)
               exact ⟨At (heap_no hrf).symm,(H246.fix (i:=2) Z)⟩
end Go.Proofs.YtfokljnhllflbaaGreat
namespace Go.Eng
open Go
theorem objF_no {s s1 s2 s3 s4:SB} {h a nw nl:Int} (h1:numF s = (h,s1)) (h2:numF s1 = (a,s2)) (h3:numF s2 = (nw,s3)) (h4:numF s3 = (nl,s4)) (hn:By nw nl < 0):objF s = (⟨h,⟨a,By nw nl⟩,[],[]⟩,(s4.1,true)):=by
  unfold objF
  simp only [h1,h2,h3,h4]
  rw [if_pos hn]
theorem objF_yes {s s1 s2 s3 s4 s5 s6:SB} {h a nw nl:Int} {kw kl:Nat} {ws ls:List Int} (h1:numF s = (h,s1)) (h2:numF s1 = (a,s2)) (h3:numF s2 = (nw,s3)) (h4:numF s3 = (nl,s4)) (hn : ¬ By nw nl < 0) (e1:nw = kw) (e2:nl = kl)
    (h5:manyF intF kw s4 = (ws,s5)) (h6:manyF numF kl s5 = (ls,s6)):objF s = (⟨h,⟨a,By nw nl⟩,ws,ls⟩,s6):=by
  unfold objF
  simp only [h1,h2,h3,h4]
  rw [if_neg hn]
  subst e1; subst e2
  simp only [Int.toNat_natCast,h5,h6]
theorem numF_some {bs r:List UInt8} {b:Bool} {x:Int} (h:rdN bs = some (x,r)):numF (bs,b) = (x,(r,b)):=by unfold numF; simp only [h]
theorem numF_none {bs:List UInt8} {b:Bool} (h:rdN bs = none):numF (bs,b) = (0,(bs,true)):=by unfold numF; simp only [h]
theorem intF_some {bs r:List UInt8} {b:Bool} {x:Int} (h:rdI bs = some (x,r)):intF (bs,b) = (x,(r,b)):=by unfold intF; simp only [h]
theorem intF_none {bs:List UInt8} {b:Bool} (h:rdI bs = none):intF (bs,b) = (0,(bs,true)):=by unfold intF; simp only [h]
theorem rdObj_ord {bs rest:List UInt8} {o:Obj} (h:rdObj bs = some (o,rest)):(0 ≤ o.blk.ord∧o.blk.ord ≤ 6)∧0 ≤ o.blk.at_∧o.blk.at_ ≤ 2147483647:=by
  have h2:=rdObj_some h
  refine ⟨?_,h2.2.2.1,h2.2.2.2⟩
  unfold rdObj at h
  split at h
  · cases h
  · split at h
    · cases h
    · split at h
      · cases h
      · rename_i nw r3 e3
        split at h
        · cases h
        · rename_i nl r4 e4
          split at h
          · cases h
          · rename_i hn
            split at h
            · cases h
            · split at h
              · cases h
              · simp only [Option.some.injEq,Prod.mk.injEq] at h
                obtain ⟨rfl,_⟩:=h
                have:=needI_bd nw nl
                simp only
                omega
theorem many_ok {k:Nat} {s:SB} {os:List Obj} {r:List UInt8} (h:manyF objF k s = (os,(r,false))) : ∀ o ∈ os,(0 ≤ o.blk.ord∧o.blk.ord ≤ 6)∧0 ≤ o.blk.at_∧o.blk.at_ ≤ 2147483647:=by
  have g:=(many_rds obj_rds k).get (s:=s) (by rw [h])
  rw [h] at g
  exact rdL_all (p:=fun o:Obj=>(0 ≤ o.blk.ord∧o.blk.ord ≤ 6)∧0 ≤ o.blk.at_∧o.blk.at_ ≤ 2147483647) (fun _ _ _ h=>rdObj_ord h) g.2
end Go.Eng
namespace Go.Proofs.YtfokljnhllflbaaGreat
open Go Go.Eng Go.RowKit Go.Proofs.Tryz
set_option maxHeartbeats 1000000 in
set_option maxRecDepth 20000 in
theorem rnum_ (w : World) (S : Nat → Prop) (p : Nat) (A : Option Addr) (n c : Nat) (bs : List UInt8) (bd : Bool) (hS : (AllA [Aa p 213 [.slice A n c, .bool bd]]).ok S w) (hr : RBM w S A n c bs) : Ret prog 187 [(.pointer (some ⟨p, 0, none⟩))] w (fun v w' => ∃ (x : Nat) (A' : Option Addr) (n' c' : Nat) (bs' : List UInt8) (b' : Bool), v = .int .i64 (x : Int) ∧ Sp ([Aa p 213 [.slice A' n' c', .bool b']] ++ [Bd w S]) w' ∧ numF (bs, bd) = ((x : Int), (bs', b')) ∧ InD A n c bs A' n' c' bs' ∧ x ≤ 2147483647) := by
  have H0:=Sp.startL hS
  obtain ⟨hrd,hrn,hrc,hrm⟩:=hr
  have hr:RBM w S A n c bs:=⟨hrd,hrn,hrc,hrm⟩
  have H0:Sp [Aa p 213 [.slice A n c,.bool bd],Bd w S] w:=H0
  refine aP func187 Z Z Z ?_
  refine cT (za (J 0) Z (cS (cT (zm (.pointer (some ⟨p,0,none⟩)) Z (zg Z (bX Z) (zg Z (fa213_0 (b:=⟨p,0,none⟩) Z Z) (zl (.slice A n c) lo97 (H0.ob (i:=0) Z) Z (aU call244 (rdNum_ _ _ bs A n c (hrd.rd) (by first | assumption | omega) (by omega)) Z Z Z ?_))))))))
  rintro _ w8 (⟨x1,rfl,g9,hrn3,hge4,hle5⟩ | ⟨e2,rfl,g10,hrn6,hne7⟩)
  ·have H11:=H0.grow g9
   have z12:=g9.size
   refine zm (.tuple #[(J (x1:Int)),(J 4),(J 0)]) Z (zx (J (x1:Int)) Z (zx (J 4) Z (zx (J 0) Z (za (J (x1:Int)) Z (za (J 4) Z (za (J 0) Z (cS (aD (cT (zm (J 0) Z (zg Z (bQ (r:=false) Z Z (by decide)) (cS (aF Z (aA (aQ (cT ?_))))))))))))))))
   refine zm (.pointer (some ⟨p,0,none⟩)) Z (zm (.pointer (some ⟨p,0,none⟩)) Z (zg Z (bX Z) (zg Z (fa213_0 (b:=⟨p,0,none⟩) Z Z) (zl (.slice A n c) lo97 (H11.ob (i:=0) Z) Z (zm (J 4) Z (zg Z (bV (i:=4) underlying97 sizeOf5 Z Z (by omega) (by omega) Z) (zg Z (bX Z) (zg Z (fa213_0 (b:=⟨p,0,none⟩) Z Z) (bE (vs:=[(.slice (dropA A c 4 1) (n - 4) (c - 4))]) (cs':=[(.slice (dropA A c 4 1) (n - 4) (c - 4)),(.bool bd)]) sizeOf97 (H11.ob (i:=0) Z) Z Z Z Z Z Z ?_)))))))))
   intro w13 hz14 g15 o16
   have H17:Sp [Aa p 213 [(.slice (dropA A c 4 1) (n - 4) (c - 4)),(.bool bd)],Bd w S] w13:=H11.setB (i:=0) rfl g15 o16 rfl
   have z18:=g15.size
   refine cS (cT (zm (J (x1:Int)) Z (za (J (x1:Int)) Z (cS (aB (aO (v:=(J (x1:Int))) (Ba Z Z) ?_))))))
   exact ⟨x1,_,_,_,_,bd,rfl,(H17.sel [0,1] (by decide) Z),numF_some hrn3,InD.drop (by omega),by omega⟩
  ·have H19:=H0.grow g10
   have z20:=g10.size
   refine zm (.tuple #[(J 0),(J 0),(J e2)]) Z (zx (J 0) Z (zx (J 0) Z (zx (J e2) Z (za (J 0) Z (za (J 0) Z (za (J e2) Z (cS (aD (cT (zm (J e2) Z (zg Z (bQ (r:=true) Z Z (decide_eq_true (by omega))) (cS (aE Z (cT ?_))))))))))))))
   refine zm (.pointer (some ⟨p,0,none⟩)) Z (zg Z (bX Z) (zg Z (fa213_1 (b:=⟨p,1,none⟩) Z Z) (bE (vs:=[bT]) (cs':=[(.slice A n c),bT]) sizeOf4 (H19.ob (i:=0) Z) Z Z Z Z Z Z ?_)))
   intro w21 hz22 g23 o24
   have H25:Sp [Aa p 213 [(.slice A n c),bT],Bd w S] w21:=H19.setB (i:=0) rfl g23 o24 rfl
   have z26:=g23.size
   refine cS (cT (za (J 0) Z (cS (aB (aR (aO (v:=(J 0)) (Ba Z Z) ?_))))))
   exact ⟨0,_,_,_,_,true,rfl,(H25.sel [0,1] (by decide) Z),numF_none hrn6,InD.refl _ _ _ _,by omega⟩
set_option maxHeartbeats 1000000 in
set_option maxRecDepth 20000 in
theorem rint_ (w : World) (S : Nat → Prop) (p : Nat) (A : Option Addr) (n c : Nat) (bs : List UInt8) (bd : Bool) (hS : (AllA [Aa p 213 [.slice A n c, .bool bd]]).ok S w) (hr : RBM w S A n c bs) : Ret prog 188 [(.pointer (some ⟨p, 0, none⟩))] w (fun v w' => ∃ (x : Int) (A' : Option Addr) (n' c' : Nat) (bs' : List UInt8) (b' : Bool), v = .int .i64 x ∧ Sp ([Aa p 213 [.slice A' n' c', .bool b']] ++ [Bd w S]) w' ∧ intF (bs, bd) = (x, (bs', b')) ∧ InD A n c bs A' n' c' bs') := by
  have H0:=Sp.startL hS
  obtain ⟨hrd,hrn,hrc,hrm⟩:=hr
  have hr:RBM w S A n c bs:=⟨hrd,hrn,hrc,hrm⟩
  have H0:Sp [Aa p 213 [.slice A n c,.bool bd],Bd w S] w:=H0
  refine aP func188 Z Z Z ?_
  refine cT (za (J 0) Z (cS (cT (zm (.pointer (some ⟨p,0,none⟩)) Z (zg Z (bX Z) (zg Z (fa213_0 (b:=⟨p,0,none⟩) Z Z) (zl (.slice A n c) lo97 (H0.ob (i:=0) Z) Z (aU call247 (rdInt_ _ _ bs A n c (hrd.rd) (by first | assumption | omega) (by omega)) Z Z Z ?_))))))))
  rintro _ w7 (⟨x1,rfl,g8,hrn3,hge4⟩ | ⟨e2,rfl,g9,hrn5,hne6⟩)
  ·have H10:=H0.grow g8
   have z11:=g8.size
   refine zm (.tuple #[(J x1),(J 8),(J 0)]) Z (zx (J x1) Z (zx (J 8) Z (zx (J 0) Z (za (J x1) Z (za (J 8) Z (za (J 0) Z (cS (aD (cT (zm (J 0) Z (zg Z (bQ (r:=false) Z Z (by decide)) (cS (aF Z (aA (aQ (cT ?_))))))))))))))))
   refine zm (.pointer (some ⟨p,0,none⟩)) Z (zm (.pointer (some ⟨p,0,none⟩)) Z (zg Z (bX Z) (zg Z (fa213_0 (b:=⟨p,0,none⟩) Z Z) (zl (.slice A n c) lo97 (H10.ob (i:=0) Z) Z (zm (J 8) Z (zg Z (bV (i:=8) underlying97 sizeOf5 Z Z (by omega) (by omega) Z) (zg Z (bX Z) (zg Z (fa213_0 (b:=⟨p,0,none⟩) Z Z) (bE (vs:=[(.slice (dropA A c 8 1) (n - 8) (c - 8))]) (cs':=[(.slice (dropA A c 8 1) (n - 8) (c - 8)),(.bool bd)]) sizeOf97 (H10.ob (i:=0) Z) Z Z Z Z Z Z ?_)))))))))
   intro w12 hz13 g14 o15
   have H16:Sp [Aa p 213 [(.slice (dropA A c 8 1) (n - 8) (c - 8)),(.bool bd)],Bd w S] w12:=H10.setB (i:=0) rfl g14 o15 rfl
   have z17:=g14.size
   refine cS (cT (zm (J x1) Z (za (J x1) Z (cS (aB (aO (v:=(J x1)) (Ba Z Z) ?_))))))
   exact ⟨x1,_,_,_,_,bd,rfl,(H16.sel [0,1] (by decide) Z),intF_some hrn3,InD.drop (by omega)⟩
  ·have H18:=H0.grow g9
   have z19:=g9.size
   refine zm (.tuple #[(J 0),(J 0),(J e2)]) Z (zx (J 0) Z (zx (J 0) Z (zx (J e2) Z (za (J 0) Z (za (J 0) Z (za (J e2) Z (cS (aD (cT (zm (J e2) Z (zg Z (bQ (r:=true) Z Z (decide_eq_true (by omega))) (cS (aE Z (cT ?_))))))))))))))
   refine zm (.pointer (some ⟨p,0,none⟩)) Z (zg Z (bX Z) (zg Z (fa213_1 (b:=⟨p,1,none⟩) Z Z) (bE (vs:=[bT]) (cs':=[(.slice A n c),bT]) sizeOf4 (H18.ob (i:=0) Z) Z Z Z Z Z Z ?_)))
   intro w20 hz21 g22 o23
   have H24:Sp [Aa p 213 [(.slice A n c),bT],Bd w S] w20:=H18.setB (i:=0) rfl g22 o23 rfl
   have z25:=g22.size
   refine cS (cT (za (J 0) Z (cS (aB (aR (aO (v:=(J 0)) (Ba Z Z) ?_))))))
   exact ⟨0,_,_,_,_,true,rfl,(H24.sel [0,1] (by decide) Z),intF_none hrn5,InD.refl _ _ _ _⟩
set_option maxHeartbeats 2000000 in
set_option maxRecDepth 20000 in
theorem robj_ (w : World) (S : Nat → Prop) (p : Nat) (A : Option Addr) (n c : Nat) (bs : List UInt8) (bd : Bool) (hS : (AllA [Aa p 213 [.slice A n c, .bool bd]]).ok S w) (hr : RBM w S A n c bs) : Ret prog 245 [(.pointer (some ⟨p, 0, none⟩))] w (fun v w' => ∃ (o : Eng.Obj) (Aw : Option Addr) (nw cw : Nat) (Al : Option Addr) (nl cl : Nat) (A' : Option Addr) (n' c' : Nat) (bs' : List UInt8) (b' : Bool), v = .agg #[.int .i64 o.handle, .int .i64 o.blk.at_, .int .i64 o.blk.ord, .slice Aw nw cw, .slice Al nl cl] ∧ Sp ([Aa p 213 [.slice A' n' c', .bool b'], Ai 3 1 Aw nw cw (ics o.words), Ai 3 1 Al nl cl (ics o.links)] ++ [Bd w S]) w' ∧ objF (bs, bd) = (o, (bs', b')) ∧ InD A n c bs A' n' c' bs' ∧ nw ≤ 140737488351232 ∧ nl ≤ 140737488351232) := by
  have H0:=Sp.startL hS
  obtain ⟨hrd,hrn,hrc,hrm⟩:=hr
  have hr:RBM w S A n c bs:=⟨hrd,hrn,hrc,hrm⟩
  have H0:Sp [Aa p 213 [.slice A n c,.bool bd],Bd w S] w:=H0
  refine aP func245 Z Z Z ?_
  refine cT (bG (cs:=[(J 0),(J 0),(J 0),(.slice none 0 0),(.slice none 0 0)]) zeroValue136 Z Z Z ?_)
  intro w1 b2 hb3 hz4 g5 o6
  have H7:=H0.newB g5 o6 (by omega)
  have z8:=g5.size
  refine cS (cT (zg Z (bY (cs:=[(J 0),(J 0),(J 0),(.slice none 0 0),(.slice none 0 0)]) bd136 Z) (bG (cs:=[(J 0),(J 0),(J 0),(.slice none 0 0),(.slice none 0 0)]) zeroValue136 Z Z Z ?_)))
  intro w9 b10 hb11 hz12 g13 o14
  have H15:=H7.newB g13 o14 (by omega)
  have z16:=g13.size
  refine bE (vs:=[(J 0),(J 0),(J 0),(.slice none 0 0),(.slice none 0 0)]) (cs':=[(J 0),(J 0),(J 0),(.slice none 0 0),(.slice none 0 0)]) sizeOf136 (H15.ob (i:=0) Z) Z Z Z Z Z Z ?_
  intro w17 hz18 g19 o20
  have H21:Sp [Aa b10 136 [(J 0),(J 0),(J 0),(.slice none 0 0),(.slice none 0 0)],Aa b2 136 [(J 0),(J 0),(J 0),(.slice none 0 0),(.slice none 0 0)],Aa p 213 [.slice A n c,.bool bd],Bd w S] w17:=H15.setB (i:=0) rfl g19 o20 rfl
  have z22:=g19.size
  refine cS (cT (zm (.pointer (some ⟨p,0,none⟩)) Z ?_))
  obtain ⟨S33,hS34,hO35,K36⟩:=Sp.takeL (l1:=[Aa p 213 [.slice A n c,.bool bd]]) (l2:=[Aa b10 136 [(J 0),(J 0),(J 0),(.slice none 0 0),(.slice none 0 0)],Aa b2 136 [(J 0),(J 0),(J 0),(.slice none 0 0),(.slice none 0 0)],Bd w S]) (w:=w17) (H21.sel [2,0,1,3] (by decide) rfl)
  refine aU call187 (rnum_ _ S33 p A n c bs bd hS34 ⟨(RdN.of_fixM hO35 (j:=2) Z hrd),hr.2⟩) Z Z Z ?_
  rintro _ w37 ⟨x23,A24,n25,c26,bs27,bq28,rfl,g38,hnum29,hind30,hxle31⟩
  have H39:Sp [Aa p 213 [.slice A24 n25 c26,.bool bq28],Aa b10 136 [(J 0),(J 0),(J 0),(.slice none 0 0),(.slice none 0 0)],Aa b2 136 [(J 0),(J 0),(J 0),(.slice none 0 0),(.slice none 0 0)],Bd w S] w37:=K36 _ _ g38
  have z40:=(H39.chg (i:=3) rfl).size
  have hq32:=hind30.m _ _ hr
  refine zg Z (fa136_0 (b:=⟨b10,0,none⟩) Z Z) (bE (vs:=[(J (x23:Int))]) (cs':=[(J (x23:Int)),(J 0),(J 0),(.slice none 0 0),(.slice none 0 0)]) sizeOf3 (H39.ob (i:=1) Z) Z Z Z Z Z Z ?_)
  intro w41 hz42 g43 o44
  have H45:Sp [Aa p 213 [.slice A24 n25 c26,.bool bq28],Aa b10 136 [(J (x23:Int)),(J 0),(J 0),(.slice none 0 0),(.slice none 0 0)],Aa b2 136 [(J 0),(J 0),(J 0),(.slice none 0 0),(.slice none 0 0)],Bd w S] w41:=H39.setB (i:=1) rfl g43 o44 rfl
  have z46:=g43.size
  refine cS (cT (zm (.pointer (some ⟨p,0,none⟩)) Z ?_))
  obtain ⟨S57,hS58,hO59,K60⟩:=H45.takeN 1
  refine aU call187 (rnum_ _ S57 p A24 n25 c26 bs27 bq28 hS58 ⟨(RdN.of_fixM hO59 (j:=2) Z hq32.1),hq32.2⟩) Z Z Z ?_
  rintro _ w61 ⟨x47,A48,n49,c50,bs51,bq52,rfl,g62,hnum53,hind54,hxle55⟩
  have H63:Sp [Aa p 213 [.slice A48 n49 c50,.bool bq52],Aa b10 136 [(J (x23:Int)),(J 0),(J 0),(.slice none 0 0),(.slice none 0 0)],Aa b2 136 [(J 0),(J 0),(J 0),(.slice none 0 0),(.slice none 0 0)],Bd w S] w61:=K60 _ _ g62
  have z65:=(H63.chg (i:=3) rfl).size
  have hq56:=hind54.m _ _ hq32
  refine zg Z (fa136_1 (b:=⟨b10,1,none⟩) Z Z) (zg Z (Cs (b:=⟨b10,1,none⟩) Z Z) (bE (vs:=[(J (x47:Int))]) (cs':=[(J (x23:Int)),(J (x47:Int)),(J 0),(.slice none 0 0),(.slice none 0 0)]) sizeOf3 (H63.ob (i:=1) Z) Z Z Z Z Z Z ?_))
  intro w66 hz67 g68 o69
  have H70:Sp [Aa p 213 [.slice A48 n49 c50,.bool bq52],Aa b10 136 [(J (x23:Int)),(J (x47:Int)),(J 0),(.slice none 0 0),(.slice none 0 0)],Aa b2 136 [(J 0),(J 0),(J 0),(.slice none 0 0),(.slice none 0 0)],Bd w S] w66:=H63.setB (i:=1) rfl g68 o69 rfl
  have z71:=g68.size
  refine cS (cT (zm (.pointer (some ⟨p,0,none⟩)) Z ?_))
  obtain ⟨S82,hS83,hO84,K85⟩:=H70.takeN 1
  refine aU call187 (rnum_ _ S82 p A48 n49 c50 bs51 bq52 hS83 ⟨(RdN.of_fixM hO84 (j:=2) Z hq56.1),hq56.2⟩) Z Z Z ?_
  rintro _ w86 ⟨x72,A73,n74,c75,bs76,bq77,rfl,g87,hnum78,hind79,hxle80⟩
  have H88:Sp [Aa p 213 [.slice A73 n74 c75,.bool bq77],Aa b10 136 [(J (x23:Int)),(J (x47:Int)),(J 0),(.slice none 0 0),(.slice none 0 0)],Aa b2 136 [(J 0),(J 0),(J 0),(.slice none 0 0),(.slice none 0 0)],Bd w S] w86:=K85 _ _ g87
  have z89:=(H88.chg (i:=3) rfl).size
  have hq81:=hind79.m _ _ hq56
  refine za (J (x72:Int)) Z (cS (cT (zm (.pointer (some ⟨p,0,none⟩)) Z ?_)))
  obtain ⟨S100,hS101,hO102,K103⟩:=H88.takeN 1
  refine aU call187 (rnum_ _ S100 p A73 n74 c75 bs76 bq77 hS101 ⟨(RdN.of_fixM hO102 (j:=2) Z hq81.1),hq81.2⟩) Z Z Z ?_
  rintro _ w104 ⟨x90,A91,n92,c93,bs94,bq95,rfl,g105,hnum96,hind97,hxle98⟩
  have H106:Sp [Aa p 213 [.slice A91 n92 c93,.bool bq95],Aa b10 136 [(J (x23:Int)),(J (x47:Int)),(J 0),(.slice none 0 0),(.slice none 0 0)],Aa b2 136 [(J 0),(J 0),(J 0),(.slice none 0 0),(.slice none 0 0)],Bd w S] w104:=K103 _ _ g105
  have z107:=(H106.chg (i:=3) rfl).size
  have hq99:=hind97.m _ _ hq81
  refine za (J (x90:Int)) Z (cS (cT (zm (J (x72:Int)) Z (zm (J (x90:Int)) Z ?_))))
  have hnb108:=needI_bd ((x72:Int):Int) ((x90:Int):Int)
  refine aU call223 (needR_ _ ((x72:Int):Int) ((x90:Int):Int)) Z Z Z ?_
  rintro _ w109 ⟨rfl,g110⟩
  have H111:=H106.grow g110
  have z112:=g110.size
  refine zg Z (fa136_1 (b:=⟨b10,1,none⟩) Z Z) (zg Z (Cg (b:=⟨b10,2,none⟩) Z Z) (bE (vs:=[(J ((By ((x72:Int):Int) ((x90:Int):Int))))]) (cs':=[(J (x23:Int)),(J (x47:Int)),(J ((By ((x72:Int):Int) ((x90:Int):Int)))),(.slice none 0 0),(.slice none 0 0)]) sizeOf3 (H111.ob (i:=1) Z) Z Z Z Z Z Z ?_))
  intro w113 hz114 g115 o116
  have H117:Sp [Aa p 213 [.slice A91 n92 c93,.bool bq95],Aa b10 136 [(J (x23:Int)),(J (x47:Int)),(J ((By ((x72:Int):Int) ((x90:Int):Int)))),(.slice none 0 0),(.slice none 0 0)],Aa b2 136 [(J 0),(J 0),(J 0),(.slice none 0 0),(.slice none 0 0)],Bd w S] w113:=H111.setB (i:=1) rfl g115 o116 rfl
  have z118:=g115.size
  refine cS (aD (cT ?_))
  have hnrg:=fun h=>needI_rng (a:=(x72:Int)) (b:=(x90:Int)) h
  refine zg Z (fa136_1 (b:=⟨b10,1,none⟩) Z Z) (zg Z (Cg (b:=⟨b10,2,none⟩) Z Z) (zl (J ((By ((x72:Int):Int) ((x90:Int):Int)))) Bw (H117.ob (i:=1) Z) Z ?_))
  refine zc (((By ((x72:Int):Int) ((x90:Int):Int)):Int) < (0:Int)) Z (fun r hr=>bL Z Z hr) (fun h119=>?_) (fun h119=>?_)
  ·refine cS (aE Z (cT (zm (.pointer (some ⟨p,0,none⟩)) Z (zg Z (bX Z) (zg Z (fa213_1 (b:=⟨p,1,none⟩) Z Z) (bE (vs:=[bT]) (cs':=[(.slice A91 n92 c93),bT]) sizeOf4 (H117.ob (i:=0) Z) Z Z Z Z Z Z ?_))))))
   intro w120 hz121 g122 o123
   have H124:Sp [Aa p 213 [(.slice A91 n92 c93),bT],Aa b10 136 [(J (x23:Int)),(J (x47:Int)),(J ((By ((x72:Int):Int) ((x90:Int):Int)))),(.slice none 0 0),(.slice none 0 0)],Aa b2 136 [(J 0),(J 0),(J 0),(.slice none 0 0),(.slice none 0 0)],Bd w S] w120:=H117.setB (i:=0) rfl g122 o123 rfl
   have z125:=g122.size
   refine cS (cT (zg Z (bW Z (Aj (cs:=[(J (x23:Int)),(J (x47:Int)),(J ((By ((x72:Int):Int) ((x90:Int):Int)))),(.slice none 0 0),(.slice none 0 0)]) wh136 (H124.ob (i:=1) Z).cl)) (bE (vs:=[(J (x23:Int)),(J (x47:Int)),(J ((By ((x72:Int):Int) ((x90:Int):Int)))),(.slice none 0 0),(.slice none 0 0)]) (cs':=[(J (x23:Int)),(J (x47:Int)),(J ((By ((x72:Int):Int) ((x90:Int):Int)))),(.slice none 0 0),(.slice none 0 0)]) sizeOf136 (H124.ob (i:=2) Z) Z Z Z Z Z Z ?_)))
   intro w126 hz127 g128 o129
   have H130:Sp [Aa p 213 [(.slice A91 n92 c93),bT],Aa b10 136 [(J (x23:Int)),(J (x47:Int)),(J ((By ((x72:Int):Int) ((x90:Int):Int)))),(.slice none 0 0),(.slice none 0 0)],Aa b2 136 [(J (x23:Int)),(J (x47:Int)),(J ((By ((x72:Int):Int) ((x90:Int):Int)))),(.slice none 0 0),(.slice none 0 0)],Bd w S] w126:=H124.setB (i:=2) rfl g128 o129 rfl
   have z131:=g128.size
   refine cS (aB (aR (aO (v:=(.agg ([(J (x23:Int)),(J (x47:Int)),(J ((By ((x72:Int):Int) ((x90:Int):Int)))),(.slice none 0 0),(.slice none 0 0)]).toArray)) (resv1 Z (cA Z (Aj (cs:=[(J (x23:Int)),(J (x47:Int)),(J ((By ((x72:Int):Int) ((x90:Int):Int)))),(.slice none 0 0),(.slice none 0 0)]) wh136 (H130.ob (i:=2) Z).cl))) ?_)))
   have H132:=H130.nil_ 3 1
   have H133:=H132.nil_ 3 1
   exact ⟨_,none,0,0,none,0,0,_,_,_,_,_,rfl,(H133.sel [2,0,1,5] (by decide) Z),objF_no hnum29 hnum53 hnum78 hnum96 h119,((hind30.trans hind54).trans (hind79.trans hind97)),by omega,by omega⟩
  ·refine cS (aF Z (aA (aQ (aD (cT ?_)))))
   have hnr2:=hnrg (by omega)
   refine za (J 0) Z (cS (aG ?_))
   have H134:=H117.nil_ 3 1
   refine aK (fun t=>(Nat.ble 6 t && Nat.ble t 7) || (Nat.ble 35 t && Nat.ble t 47)) (fun nL ρ wl => ∃ (k0 nw0 cw0 n0 c0:Nat) (Aw0 A0:Option Addr) (l0:List Int) (bs0:List UInt8) (b0:Bool),ρ 6 = (J (k0:Int))∧nL = x72 - k0∧Sp [Ai 3 1 Aw0 nw0 cw0 (ics l0),Aa p 213 [.slice A0 n0 c0,.bool b0],Aa b10 136 [(J (x23:Int)),(J (x47:Int)),(J ((By ((x72:Int):Int) ((x90:Int):Int)))),(.slice Aw0 nw0 cw0),(.slice none 0 0)],Aa b2 136 [(J 0),(J 0),(J 0),(.slice none 0 0),(.slice none 0 0)],Bd w S] wl∧k0 ≤ x72∧manyF intF k0 (bs94,bq95) = (l0,(bs0,b0))∧nw0 = k0∧InD A91 n92 c93 bs94 A0 n0 c0 bs0) (x72) ?aa0 ?bb0
   case aa0 =>
    exact ⟨0,0,0,n92,c93,none,A91,[],bs94,bq95,rfl,rfl,H134,Nat.zero_le _,rfl,rfl,InD.refl _ _ _ _⟩
   case bb0 =>
    rintro n136 ρ0 w135 ho137 ⟨k0,nw0,cw0,n0,c0,Aw0,A0,l0,bs0,b0,hs0_6,hn0,H138,hk0,hmy0,hnw0,hin0⟩
    obtain ⟨j0,rfl⟩:=ho137.shape1 hs0_6
    clear ho137 hs0_6
    subst hn0
    have z139:=(H138.chg (i:=4) rfl).size
    have hqi0:=hin0.m _ _ hq99
    refine aD (cT (zm (J (k0:Int)) Z (zm (J (x72:Int)) Z ?_)))
    refine zc (((k0:Int):Int) < ((x72:Int):Int)) Z (fun r hr=>bL Z Z hr) (fun h140=>?_) (fun h140=>?_)
    ·refine cS (aE Z (aA (aQ (aD (aG (cT (zm (.pointer (some ⟨p,0,none⟩)) Z ?_)))))))
     obtain ⟨S151,hS152,hO153,K154⟩:=Sp.takeL (l1:=[Aa p 213 [.slice A0 n0 c0,.bool b0]]) (l2:=[Ai 3 1 Aw0 nw0 cw0 (ics l0),Aa b10 136 [(J (x23:Int)),(J (x47:Int)),(J ((By ((x72:Int):Int) ((x90:Int):Int)))),(.slice Aw0 nw0 cw0),(.slice none 0 0)],Aa b2 136 [(J 0),(J 0),(J 0),(.slice none 0 0),(.slice none 0 0)],Bd w S]) (w:=w135) (H138.sel [1,0,2,3,4] (by decide) rfl)
     refine aU call188 (rint_ _ S151 p A0 n0 c0 bs0 b0 hS152 ⟨(RdN.of_fixM hO153 (j:=3) Z hqi0.1),hqi0.2⟩) Z Z Z ?_
     rintro _ w155 ⟨x141,A142,n143,c144,bs145,bq146,rfl,g156,hnum147,hind148⟩
     have H157:Sp [Aa p 213 [.slice A142 n143 c144,.bool bq146],Ai 3 1 Aw0 nw0 cw0 (ics l0),Aa b10 136 [(J (x23:Int)),(J (x47:Int)),(J ((By ((x72:Int):Int) ((x90:Int):Int)))),(.slice Aw0 nw0 cw0),(.slice none 0 0)],Aa b2 136 [(J 0),(J 0),(J 0),(.slice none 0 0),(.slice none 0 0)],Bd w S] w155:=K154 _ _ g156
     have z158:=(H157.chg (i:=4) rfl).size
     have hq150:=hind148.m _ _ hqi0
     refine za (J x141) Z (cS (aL (zg Z (fa136_2 (b:=⟨b10,3,none⟩) Z Z) (zl (.slice Aw0 nw0 cw0) lo134 (H157.ob (i:=2) Z) Z (zm (J x141) Z (cF (cs:=[(J x141)]) underlying134 sizeOf3 ze134 Z Z Z (by decide) Z Z Z ?_))))))
     intro w159 b160 hb161 hz162 g163 o164
     have H165:=H157.newB g163 o164 (by omega)
     have z166:=g163.size
     refine cL (base:=0) (xss:=(ics l0)) (yss:=(ics ([x141]))) el134 (H165.wr (i:=2) Z) Z (Ob.rd1 (H165.ob (i:=0) Z) Z) Z (by simp only [Aq,Au,Ar,Am,Ak,Ap,List.length_append,List.length_cons,List.length_nil,List.length_take,List.length_drop,List.length_map,Cr,Dp,Bj,Bk,Do]; try omega) (ics_one _) (by omega) (by omega) (by omega) Z Z ?_
     intro w167 A168 c169 g170 ow171 nx172
     have H173:Sp [Aa b160 3 [(J x141)],Aa p 213 [.slice A142 n143 c144,.bool bq146],Ai 3 1 A168 (nw0 + 1) c169 (ics (l0 ++ [x141])),Aa b10 136 [(J (x23:Int)),(J (x47:Int)),(J ((By ((x72:Int):Int) ((x90:Int):Int)))),(.slice Aw0 nw0 cw0),(.slice none 0 0)],Aa b2 136 [(J 0),(J 0),(J 0),(.slice none 0 0),(.slice none 0 0)],Bd w S] w167:=H165.setR (i:=2) rfl g170 ((ics_app _ _).symm ▸ ow171) nx172 rfl
     have z174:=g170.size
     refine zg Z (fa136_2 (b:=⟨b10,3,none⟩) Z Z) (bE (vs:=[(.slice A168 (nw0 + 1) c169)]) (cs':=[(J (x23:Int)),(J (x47:Int)),(J ((By ((x72:Int):Int) ((x90:Int):Int)))),(.slice A168 (nw0 + 1) c169),(.slice none 0 0)]) sizeOf134 (H173.ob (i:=3) Z) Z Z Z Z Z Z ?_)
     intro w175 hz176 g177 o178
     have H179:Sp [Aa b160 3 [(J x141)],Aa p 213 [.slice A142 n143 c144,.bool bq146],Ai 3 1 A168 (nw0 + 1) c169 (ics (l0 ++ [x141])),Aa b10 136 [(J (x23:Int)),(J (x47:Int)),(J ((By ((x72:Int):Int) ((x90:Int):Int)))),(.slice A168 (nw0 + 1) c169),(.slice none 0 0)],Aa b2 136 [(J 0),(J 0),(J 0),(.slice none 0 0),(.slice none 0 0)],Bd w S] w175:=H173.setB (i:=3) rfl g177 o178 rfl
     have z180:=g177.size
     refine aM (inB.n (aQ (aL (zm (J (k0:Int)) Z (zg Z (bI (r:=(k0:Int) + 1) Z Z (Dl (by omega) (by omega))) (za (J ((k0:Int) + 1)) Z (cS ?_)))))))
     refine ⟨(by repeat (first | exact aJ _ _ | exact aH _ _ | refine aI ?_ Z _ | refine cR ?_ (by intro t ht; simp only [Bool.or_eq_false_iff,Bool.and_eq_false_iff,ble_f,beq_f] at ht ⊢; omega))),_,?_,k0 + 1,nw0 + 1,c169,n143,c144,A168,A142,l0 ++ [x141],bs145,bq146,rfl,rfl,(H179.sel [2,1,3,4,5] (by decide) Z),by omega,manyF_go hmy0 hnum147,by omega,hin0.trans hind148⟩
     omega
    ·refine cS (aF Z (aC (aS (aS (Bo (aQ (aD (cT (za (J 0) Z (cS (aG ?_)))))))))))
     have H181:=H138.nil_ 3 1
     refine aK (fun t=>(Nat.ble 8 t && Nat.ble t 9) || (Nat.ble 48 t && Nat.ble t 60)) (fun nL ρ wl => ∃ (k1 nw1 cw1 n1 c1:Nat) (Aw1 A1:Option Addr) (l1:List Int) (bs1:List UInt8) (b1:Bool),ρ 8 = (J (k1:Int))∧nL = x90 - k1∧Sp [Ai 3 1 Aw1 nw1 cw1 (ics l1),Ai 3 1 Aw0 nw0 cw0 (ics l0),Aa p 213 [.slice A1 n1 c1,.bool b1],Aa b10 136 [(J (x23:Int)),(J (x47:Int)),(J ((By ((x72:Int):Int) ((x90:Int):Int)))),(.slice Aw0 nw0 cw0),(.slice Aw1 nw1 cw1)],Aa b2 136 [(J 0),(J 0),(J 0),(.slice none 0 0),(.slice none 0 0)],Bd w S] wl∧k1 ≤ x90∧manyF numF k1 (bs0,b0) = (l1,(bs1,b1))∧nw1 = k1∧InD A0 n0 c0 bs0 A1 n1 c1 bs1) (x90) ?aa1 ?bb1
     case aa1 =>
      exact ⟨0,0,0,n0,c0,none,A0,[],bs0,b0,rfl,rfl,H181,Nat.zero_le _,rfl,rfl,InD.refl _ _ _ _⟩
     case bb1 =>
      rintro n183 ρ1 w182 ho184 ⟨k1,nw1,cw1,n1,c1,Aw1,A1,l1,bs1,b1,hs1_8,hn1,H185,hk1,hmy1,hnw1,hin1⟩
      obtain ⟨j1,rfl⟩:=ho184.shape1 hs1_8
      clear ho184 hs1_8
      subst hn1
      have z186:=(H185.chg (i:=5) rfl).size
      have hqi1:=hin1.m _ _ hqi0
      refine aD (cT (zm (J (k1:Int)) Z (zm (J (x90:Int)) Z ?_)))
      refine zc (((k1:Int):Int) < ((x90:Int):Int)) Z (fun r hr=>bL Z Z hr) (fun h187=>?_) (fun h187=>?_)
      ·refine cS (aE Z (aA (aQ (aD (aG (cT (zm (.pointer (some ⟨p,0,none⟩)) Z ?_)))))))
       obtain ⟨S198,hS199,hO200,K201⟩:=Sp.takeL (l1:=[Aa p 213 [.slice A1 n1 c1,.bool b1]]) (l2:=[Ai 3 1 Aw1 nw1 cw1 (ics l1),Ai 3 1 Aw0 nw0 cw0 (ics l0),Aa b10 136 [(J (x23:Int)),(J (x47:Int)),(J ((By ((x72:Int):Int) ((x90:Int):Int)))),(.slice Aw0 nw0 cw0),(.slice Aw1 nw1 cw1)],Aa b2 136 [(J 0),(J 0),(J 0),(.slice none 0 0),(.slice none 0 0)],Bd w S]) (w:=w182) (H185.sel [2,0,1,3,4,5] (by decide) rfl)
       refine aU call187 (rnum_ _ S198 p A1 n1 c1 bs1 b1 hS199 ⟨(RdN.of_fixM hO200 (j:=4) Z hqi1.1),hqi1.2⟩) Z Z Z ?_
       rintro _ w202 ⟨x188,A189,n190,c191,bs192,bq193,rfl,g203,hnum194,hind195,hxle196⟩
       have H204:Sp [Aa p 213 [.slice A189 n190 c191,.bool bq193],Ai 3 1 Aw1 nw1 cw1 (ics l1),Ai 3 1 Aw0 nw0 cw0 (ics l0),Aa b10 136 [(J (x23:Int)),(J (x47:Int)),(J ((By ((x72:Int):Int) ((x90:Int):Int)))),(.slice Aw0 nw0 cw0),(.slice Aw1 nw1 cw1)],Aa b2 136 [(J 0),(J 0),(J 0),(.slice none 0 0),(.slice none 0 0)],Bd w S] w202:=K201 _ _ g203
       have z205:=(H204.chg (i:=5) rfl).size
       have hq197:=hind195.m _ _ hqi1
       refine za (J (x188:Int)) Z (cS (aL (zg Z (fa136_3 (b:=⟨b10,4,none⟩) Z Z) (zl (.slice Aw1 nw1 cw1) lo134 (H204.ob (i:=3) Z) Z (zm (J (x188:Int)) Z (cF (cs:=[(J (x188:Int))]) underlying134 sizeOf3 ze134 Z Z Z (by decide) Z Z Z ?_))))))
       intro w206 b207 hb208 hz209 g210 o211
       have H212:=H204.newB g210 o211 (by omega)
       have z213:=g210.size
       refine cL (base:=0) (xss:=(ics l1)) (yss:=(ics ([(x188:Int)]))) el134 (H212.wr (i:=2) Z) Z (Ob.rd1 (H212.ob (i:=0) Z) Z) Z (by simp only [Aq,Au,Ar,Am,Ak,Ap,List.length_append,List.length_cons,List.length_nil,List.length_take,List.length_drop,List.length_map,Cr,Dp,Bj,Bk,Do]; try omega) (ics_one _) (by omega) (by omega) (by omega) Z Z ?_
       intro w214 A215 c216 g217 ow218 nx219
       have H220:Sp [Aa b207 3 [(J (x188:Int))],Aa p 213 [.slice A189 n190 c191,.bool bq193],Ai 3 1 A215 (nw1 + 1) c216 (ics (l1 ++ [(x188:Int)])),Ai 3 1 Aw0 nw0 cw0 (ics l0),Aa b10 136 [(J (x23:Int)),(J (x47:Int)),(J ((By ((x72:Int):Int) ((x90:Int):Int)))),(.slice Aw0 nw0 cw0),(.slice Aw1 nw1 cw1)],Aa b2 136 [(J 0),(J 0),(J 0),(.slice none 0 0),(.slice none 0 0)],Bd w S] w214:=H212.setR (i:=2) rfl g217 ((ics_app _ _).symm ▸ ow218) nx219 rfl
       have z221:=g217.size
       refine zg Z (fa136_3 (b:=⟨b10,4,none⟩) Z Z) (bE (vs:=[(.slice A215 (nw1 + 1) c216)]) (cs':=[(J (x23:Int)),(J (x47:Int)),(J ((By ((x72:Int):Int) ((x90:Int):Int)))),(.slice Aw0 nw0 cw0),(.slice A215 (nw1 + 1) c216)]) sizeOf134 (H220.ob (i:=4) Z) Z Z Z Z Z Z ?_)
       intro w222 hz223 g224 o225
       have H226:Sp [Aa b207 3 [(J (x188:Int))],Aa p 213 [.slice A189 n190 c191,.bool bq193],Ai 3 1 A215 (nw1 + 1) c216 (ics (l1 ++ [(x188:Int)])),Ai 3 1 Aw0 nw0 cw0 (ics l0),Aa b10 136 [(J (x23:Int)),(J (x47:Int)),(J ((By ((x72:Int):Int) ((x90:Int):Int)))),(.slice Aw0 nw0 cw0),(.slice A215 (nw1 + 1) c216)],Aa b2 136 [(J 0),(J 0),(J 0),(.slice none 0 0),(.slice none 0 0)],Bd w S] w222:=H220.setB (i:=4) rfl g224 o225 rfl
       have z227:=g224.size
       refine aM (inB.n (aQ (aL (zm (J (k1:Int)) Z (zg Z (bI (r:=(k1:Int) + 1) Z Z (Dl (by omega) (by omega))) (za (J ((k1:Int) + 1)) Z (cS ?_)))))))
       refine ⟨(by repeat (first | exact aJ _ _ | exact aH _ _ | refine aI ?_ Z _ | refine cR ?_ (by intro t ht; simp only [Bool.or_eq_false_iff,Bool.and_eq_false_iff,ble_f,beq_f] at ht ⊢; omega))),_,?_,k1 + 1,nw1 + 1,c216,n190,c191,A215,A189,l1 ++ [(x188:Int)],bs192,bq193,rfl,rfl,(H226.sel [2,3,1,4,5,6] (by decide) Z),by omega,manyF_go hmy1 hnum194,by omega,hin1.trans hind195⟩
       omega
      ·refine cS (aF Z (aC (aS (aS (Bo (aQ (cT (zg Z (bW Z (Aj (cs:=[(J (x23:Int)),(J (x47:Int)),(J ((By ((x72:Int):Int) ((x90:Int):Int)))),(.slice Aw0 nw0 cw0),(.slice Aw1 nw1 cw1)]) wh136 (H185.ob (i:=3) Z).cl)) (bE (vs:=[(J (x23:Int)),(J (x47:Int)),(J ((By ((x72:Int):Int) ((x90:Int):Int)))),(.slice Aw0 nw0 cw0),(.slice Aw1 nw1 cw1)]) (cs':=[(J (x23:Int)),(J (x47:Int)),(J ((By ((x72:Int):Int) ((x90:Int):Int)))),(.slice Aw0 nw0 cw0),(.slice Aw1 nw1 cw1)]) sizeOf136 (H185.ob (i:=4) Z) Z Z Z Z Z Z ?_)))))))))
       intro w228 hz229 g230 o231
       have H232:Sp [Ai 3 1 Aw1 nw1 cw1 (ics l1),Ai 3 1 Aw0 nw0 cw0 (ics l0),Aa p 213 [.slice A1 n1 c1,.bool b1],Aa b10 136 [(J (x23:Int)),(J (x47:Int)),(J ((By ((x72:Int):Int) ((x90:Int):Int)))),(.slice Aw0 nw0 cw0),(.slice Aw1 nw1 cw1)],Aa b2 136 [(J (x23:Int)),(J (x47:Int)),(J ((By ((x72:Int):Int) ((x90:Int):Int)))),(.slice Aw0 nw0 cw0),(.slice Aw1 nw1 cw1)],Bd w S] w228:=H185.setB (i:=4) rfl g230 o231 rfl
       have z233:=g230.size
       refine cS (aB (aO (v:=(.agg ([(J (x23:Int)),(J (x47:Int)),(J ((By ((x72:Int):Int) ((x90:Int):Int)))),(.slice Aw0 nw0 cw0),(.slice Aw1 nw1 cw1)]).toArray)) (resv1 Z (cA Z (Aj (cs:=[(J (x23:Int)),(J (x47:Int)),(J ((By ((x72:Int):Int) ((x90:Int):Int)))),(.slice Aw0 nw0 cw0),(.slice Aw1 nw1 cw1)]) wh136 (H232.ob (i:=4) Z).cl))) ?_))
       exact ⟨_,_,_,_,_,_,_,_,_,_,_,_,rfl,(H232.sel [2,1,0,5] (by decide) Z),objF_yes hnum29 hnum53 hnum78 hnum96 h119 (by omega) (by omega) hmy0 hmy1,((hind30.trans hind54).trans (hind79.trans hind97)).trans (hin0.trans hin1),by omega,by omega⟩
end Go.Proofs.YtfokljnhllflbaaGreat
namespace Go.Eng
open Go Go.RowKit
theorem clear_f {o:Int} {ros:List RObj} {b:Blk} {i:Nat} {x:RObj} (hx:ros[i]? = some x) (h:meetB b x.blk = true):clearB o (ros.map RObj.blk) b = false:=by
  unfold clearB
  rw [Bool.and_eq_false_iff]
  left
  rw [Bool.not_eq_false']
  exact List.any_eq_true.2 ⟨x.blk,List.mem_map.2 ⟨x,List.mem_of_getElem? hx,rfl⟩,h⟩
theorem clear_m {o:Int} {ros:List RObj} {b:Blk} {n:Nat} (hn:ros.length ≤ n) (h : ∀ (j:Nat) (x:RObj),j < n → ros[j]? = some x → meetB b x.blk = false):clearB o (ros.map RObj.blk) b = mayR o b:=by
  have:(ros.map RObj.blk).any (fun x=>meetB b x) = false:=List.any_eq_false.2 fun y hy=>by
    obtain ⟨x,hx,rfl⟩:=List.mem_map.1 hy
    obtain ⟨j,hj⟩:=List.mem_iff_getElem?.1 hx
    rw [h j x (by have:=lt_len hj; omega) hj]
    decide
  unfold clearB
  rw [this]
  rfl
theorem scan_step {o:Int} {xs:List Blk} {a:Int} (h8:o ≤ 8) (h0:0 ≤ a) (h:a < Af o) {j:Nat} (hj:topO o xs a o.toNat = j):scanF o xs 512 a = (if clearB o xs ⟨a,(j:Int)⟩ then [⟨a,(j:Int)⟩] else []) ++ scanF o xs 512 (a + Af (j:Int)):=by
  subst hj
  have hw:=Bc o
  have hb : ∀ j,topO o xs a j ≤ j:=by
    intro j
    induction j with
    | zero=>exact Nat.le_refl _
    | succ j ih=>unfold topO; split <;> omega
  have hj:=hb o.toNat
  by_cases ho:0 ≤ o
  · have:=Bt (o:=(topO o xs a o.toNat:Int)) (by omega) (by omega)
    conv=>lhs; unfold scanF
    rw [if_pos h]
    simp only
    rw [scanF_fuel h8 511 512 _ (by omega) (by omega)]
  · have:Af o = 0:=by unfold Af; rw [if_pos (by omega)]
    omega
theorem scan_end {o:Int} {xs:List Blk} {a:Int} (h : ¬ a < Af o):scanF o xs 512 a = []:=by unfold scanF; rw [if_neg h]
def HpW (rh:RHeap) (ros:List RObj) (h:Heap):Atom where
  ok S w:=(rh.order = h.order∧rh.next = h.next∧[rh.t0,rh.t1,rh.t2,rh.t3] = h.tops∧rh.objs.n ≤ 140737488351232∧rh.free.n ≤ 140737488351232)∧(Ai 136 5 rh.objs.a rh.objs.n rh.objs.c (Cp ros)).ok S w∧(ObjsA ros h.objs).ok S w∧(Ai 133 2 rh.free.a rh.free.n rh.free.c (Cq h.free)).ok S w
  mono h1 h2:=⟨h2.1,(Ai 136 5 rh.objs.a rh.objs.n rh.objs.c (Cp ros)).mono h1 h2.2.1,(ObjsA ros h.objs).mono h1 h2.2.2.1,(Ai 133 2 rh.free.a rh.free.n rh.free.c (Cq h.free)).mono h1 h2.2.2.2⟩
  st ch hT h1:=⟨h1.1,(Ai 136 5 rh.objs.a rh.objs.n rh.objs.c (Cp ros)).st ch hT h1.2.1,(ObjsA ros h.objs).st ch hT h1.2.2.1,(Ai 133 2 rh.free.a rh.free.n rh.free.c (Cq h.free)).st ch hT h1.2.2.2⟩
theorem HpW.hr {rh:RHeap} {ros:List RObj} {h:Heap} {S:Nat → Prop} {w:World} (H:(HpW rh ros h).ok S w):HeapR w w.heap.size rh ros h:=by
  obtain ⟨⟨h1,h2,h3,h4,h5⟩,h6,h7,h8⟩:=H
  have l6:=h6.1.len
  have l8:=h8.1.len
  rw [Ak] at l6
  rw [Am] at l8
  exact ⟨h1,h2,h3,⟨h7.1,l6.symm,h4,h6.1.rd,fun i ro o hr ho=>ObjA.r (h7.2 i ro o hr ho)⟩,l8.symm,h5,h8.1.rd⟩
theorem Sp.hpWR {w:World} {l:List Atom} {i:Nat} {rh:RHeap} {ros:List RObj} {hh:Heap} (h:Sp l w) (hi:l[i]? = some (HpW rh ros hh)):HeapR w w.heap.size rh ros hh:=by
  obtain ⟨S,h1⟩:=h.get hi
  exact HpW.hr h1
theorem Sp.hpMk {w:World} {l:List Atom} {rh:RHeap} {ros:List RObj} {hh:Heap} (h:Sp (Ai 136 5 rh.objs.a rh.objs.n rh.objs.c (Cp ros) :: ObjsA ros hh.objs :: Ai 133 2 rh.free.a rh.free.n rh.free.c (Cq hh.free) :: l) w)
    (hh1:rh.order = hh.order∧rh.next = hh.next∧[rh.t0,rh.t1,rh.t2,rh.t3] = hh.tops∧rh.objs.n ≤ 140737488351232∧rh.free.n ≤ 140737488351232):Sp (HpW rh ros hh :: l) w :=
  h.merge3 fun S T U q1 q2 q3=>⟨hh1,(Ai 136 5 rh.objs.a rh.objs.n rh.objs.c (Cp ros)).mono (fun b hb=>.inl (.inl hb)) q1,(ObjsA ros hh.objs).mono (fun b hb=>.inl (.inr hb)) q2,(Ai 133 2 rh.free.a rh.free.n rh.free.c (Cq hh.free)).mono (fun b hb=>.inr hb) q3⟩
def StW (rs:RState) (ros:List RObj) (s:State):Atom where
  ok S w:=rs.rows.n ≤ 140737488351232∧(HpW rs.heap ros s.heap).ok S w∧(Ai 123 4 rs.rows.a rs.rows.n rs.rows.c (rows s.rows)).ok S w
  mono h1 h2:=⟨h2.1,(HpW rs.heap ros s.heap).mono h1 h2.2.1,(Ai 123 4 rs.rows.a rs.rows.n rs.rows.c (rows s.rows)).mono h1 h2.2.2⟩
  st ch hT h1:=⟨h1.1,(HpW rs.heap ros s.heap).st ch hT h1.2.1,(Ai 123 4 rs.rows.a rs.rows.n rs.rows.c (rows s.rows)).st ch hT h1.2.2⟩
theorem Sp.stWR {w:World} {l:List Atom} {i:Nat} {rs:RState} {ros:List RObj} {s:State} (h:Sp l w) (hi:l[i]? = some (StW rs ros s)):StateR w w.heap.size rs ros s:=by
  obtain ⟨S,h1,h2,h3⟩:=h.get hi
  have l3:=h3.1.len
  rw [Ar] at l3
  exact ⟨HpW.hr h2,l3.symm,h1,h3.1.rd⟩
theorem Sp.stMk {w:World} {l:List Atom} {rs:RState} {ros:List RObj} {s:State} (h:Sp (HpW rs.heap ros s.heap :: Ai 123 4 rs.rows.a rs.rows.n rs.rows.c (rows s.rows) :: l) w) (hn:rs.rows.n ≤ 140737488351232):Sp (StW rs ros s :: l) w :=
  h.merge fun S T q1 q2=>⟨hn,(HpW rs.heap ros s.heap).mono (fun b hb=>.inl hb) q1,(Ai 123 4 rs.rows.a rs.rows.n rs.rows.c (rows s.rows)).mono (fun b hb=>.inr hb) q2⟩
end Go.Eng
namespace Go.Proofs.YtfokljnhllflbaaGreat
open Go Go.Eng Go.RowKit Go.Proofs.Tryz
set_option maxHeartbeats 1000000 in
set_option maxRecDepth 20000 in
theorem clear_ (w:World) (B:Nat) (o:Int) (b:Blk) (ros:List RObj) (A:Option Addr) (n c:Nat) (hr:Rd w B 5 A (Cp ros)) (hn:n = ros.length) (hB:B ≤ w.heap.size) (hm:n ≤ 1000000) (ho:0 ≤ o∧o ≤ 8) (hb1:0 ≤ b.ord∧b.ord ≤ 8) (hb2:0 ≤ b.at_∧b.at_ ≤ 2147483647) (hx:(∀ x ∈ ros,(0 ≤ x.blk.ord∧x.blk.ord ≤ 8)∧0 ≤ x.blk.at_∧x.blk.at_ ≤ 2147483647)):Ret prog 268 [(J o),(.agg (b.cells).toArray),(.slice A n c)] w (fun v w'=>v = .bool (clearB o (ros.map RObj.blk) b)∧w.grownBy w' none):=by
  have H0:Sp [Bd w Bl] w:=Bv w
  refine aP func268 Z Z Z ?_
  refine cT (bH (cs:=b.cells) Z Z Z ?_)
  intro w1 b2 hb3 hz4 g5 o6
  have H7:=H0.newB g5 o6 (by omega)
  have z8:=g5.size
  refine za bF Z (cS (aD (cT (za (J 0) Z (cS (aG ?_))))))
  refine aK (fun t=>(Nat.ble 6 t && Nat.ble t 20)) (fun nL ρ wl => ∃ (i:Nat),ρ 7 = (J (i:Int))∧nL = n - i∧Sp [Aa b2 133 b.cells,Bd w Bl] wl∧i ≤ n ∧ ∀ (j:Nat) (x:RObj),j < i → ros[j]? = some x → meetB b x.blk = false) (n) ?aa0 ?bb0
  case aa0 =>
   exact ⟨0,rfl,rfl,H7,Nat.zero_le _,fun j x hj=>by omega⟩
  case bb0 =>
   rintro n10 ρ0 w9 ho11 ⟨i,hs0_7,hn0,H12,hi,hO⟩
   obtain ⟨j0,rfl⟩:=ho11.shape1 hs0_7
   clear ho11 hs0_7
   subst hn0
   have z13:=(H12.fix (i:=1) rfl).size
   refine aD (cT (zm (J (i:Int)) Z (zm (.slice A n c) Z (zg Z (bR underlying43 Z) ?_))))
   refine zc (((i:Int):Int) < ((n:Nat):Int)) Z (fun r hr=>bL Z Z hr) (fun h14=>?_) (fun h14=>?_)
   ·refine cS (aE Z (aA (aQ (aD (aG (aD (cN (fun wq=>Sp [Aa b2 133 b.cells,Bd w Bl] wq) Tryz.mixed Z ?_)))))))
    intro w15 g16
    have H17:=H12.grow g16
    have z18:=g16.size
    refine zr 1 2 Z (by kernel_rfl) H17 (fun wq hq=>aX (v:=(.slice A n c)) Z) (zr 2 6 Z (by kernel_rfl) H17 (fun wq hq=>aX (v:=(J (i:Int))) Z) (zr 0 7 Z (by kernel_rfl) H17 (fun wq hq=>bW Z (Aj (cs:=b.cells) wh133 (hq.ob (i:=0) Z).cl)) ?_))
    obtain ⟨e19,he20⟩ : ∃ e,(ros)[i]? = some e:=⟨_,List.getElem?_eq_getElem (by omega)⟩
    obtain ⟨ad21,hA22⟩:=Rd.sm (hr.st0 (H17.fix (i:=1) rfl)) (Cj he20)
    have hl23:=Eng.lt_len (Cj he20)
    refine zr 3 15 Z (by kernel_rfl) H17 (fun wq hq=>bS (b:=(ad21.add (i * 5))) (i:=i) underlying43 sizeOf136 (by rw [← hA22]; rfl) Z (by omega) (by omega) Z) (zr 4 31 Z (by kernel_rfl) H17 (fun wq hq=>fa136_1 (b:=(((ad21.add (i * 5))).add 1)) Z Z) (zr 5 63 Z (by kernel_rfl) H17 (fun wq hq=>bW Z (Aj (cs:=[(J e19.blk.at_),(J e19.blk.ord)]) wh133 ((Rd.cl (hr.st0 (hq.fix (i:=1) Z)) hA22 (Cj he20)).sub 1 2))) (cO (i:=6) (by kernel_rfl) ?_)))
    refine ⟨_,127,rfl,by kernel_rfl,?_⟩
    have hxe:=hx e19 (List.mem_of_getElem? he20)
    refine aU call227 (meet_ _ b e19.blk (by first | assumption | (constructor <;> (first | omega | (show _ ≤ _; omega)))) (by first | assumption | (constructor <;> (first | omega | (show _ ≤ _; omega)))) (by first | assumption | (constructor <;> (first | omega | (show _ ≤ _; omega)))) (by first | assumption | (constructor <;> (first | omega | (show _ ≤ _; omega))))) Z Z Z ?_
    rintro _ w24 ⟨rfl,g25⟩
    have H26:=H17.grow g25
    have z27:=g25.size
    rcases hb28:(meetB b e19.blk) with _ | _
    ·refine aM ?_
     refine ⟨H26,?_⟩
     refine cQ (by kernel_rfl) (aQ (aF Z (aA (inB.n (aQ (aL (zm (J (i:Int)) Z (zg Z (bI (r:=(i:Int) + 1) Z Z (Dl (by omega) (by omega))) (za (J ((i:Int) + 1)) Z (cS ?_))))))))))
     refine ⟨(by repeat (first | exact aJ _ _ | exact aH _ _ | refine aI ?_ Z _)),_,?_,i + 1,rfl,rfl,H26,by omega,upto_go (p:=fun _ (x:RObj)=>meetB b x.blk = false) hO he20 hb28⟩
     omega
    ·refine aM ?_
     refine ⟨H26,?_⟩
     refine cQ (by kernel_rfl) (aQ (aE Z (cT (za bF Z (cS (aB (inB.r (aR (aR (inB.r (aR (aO (v:=bF) (Ba Z Z) ?_))))))))))))
     exact ⟨At (clear_f he20 hb28).symm,(H26.fix (i:=1) Z)⟩
   ·refine cS (aF Z (aC (aS (aS (Bo (aQ (cT (zm (J o) Z (zg Z (bW Z (Aj (cs:=b.cells) wh133 (H12.ob (i:=0) Z).cl)) (aU call224 (mayR_ _ o b (by omega) (by omega)) Z Z Z ?_))))))))))
    rintro _ w29 ⟨rfl,g30⟩
    have H31:=H12.grow g30
    have z32:=g30.size
    rcases hb33:(mayR o b) with _ | _
    ·refine za bF Z (cS (aB (aO (v:=bF) (Ba Z Z) ?_)))
     exact ⟨At (by rw [clear_m (n:=i) (by omega) hO,hb33]),(H31.fix (i:=1) Z)⟩
    ·have hmt:=mayR_bd hb33 (by omega)
     refine za bT Z (cS (aB (aO (v:=bT) (Ba Z Z) ?_)))
     exact ⟨At (by rw [clear_m (n:=i) (by omega) hO,hb33]),(H31.fix (i:=1) Z)⟩
set_option maxHeartbeats 2000000 in
set_option maxRecDepth 20000 in
theorem freeR_ (w:World) (B:Nat) (o:Int) (ros:List RObj) (A:Option Addr) (n c:Nat) (hr:Rd w B 5 A (Cp ros)) (hn:n = ros.length) (hB:B ≤ w.heap.size) (hm:n ≤ 1000000) (ho:0 ≤ o∧o ≤ 8) (hx:(∀ x ∈ ros,(0 ≤ x.blk.ord∧x.blk.ord ≤ 8)∧0 ≤ x.blk.at_∧x.blk.at_ ≤ 2147483647)):Ret prog 246 [(J o),(.slice A n c)] w (fun v w' => ∃ (A':Option Addr) (n' c':Nat),v = .slice A' n' c'∧Sp ([Ai 133 2 A' n' c' (Cq (Dq (Af o) (ros.map RObj.blk) [⟨0,o⟩]))] ++ [Bd w Bl]) w'∧n' ≤ 600):=by
  have hwo:=Bc o
  obtain ⟨ot,hot⟩ : ∃ ot:Nat,o = (ot:Int):=⟨o.toNat,by omega⟩
  have H0:Sp [Bd w Bl] w:=Bv w
  refine aP func246 Z Z Z ?_
  refine cT (za (.slice none 0 0) Z (cS (cT (za (.slice none 0 0) Z (cS (cT (za (J 0) Z (cS (aD (aG ?_))))))))))
  have H1:=H0.nil_ 133 2
  refine aK (fun t=>(Nat.ble 5 t && Nat.ble t 41)) (fun nL ρ wl => ∃ (a:Int) (n1 c1:Nat) (A1:Option Addr) (bs1:List Blk),ρ 6 = (J a)∧ρ 5 = (.slice A1 n1 c1)∧nL = (Af o - a).toNat∧Sp [Ai 133 2 A1 n1 c1 (Cq bs1),Bd w Bl] wl∧0 ≤ a∧a ≤ 512∧bs1 ++ scanF o (ros.map RObj.blk) 512 a = scanF o (ros.map RObj.blk) 512 0∧(n1:Int) ≤ a) ((Af o).toNat) ?aa0 ?bb0
  case aa0 =>
   exact ⟨0,0,0,none,[],rfl,rfl,(by simp),H1,Int.le_refl _,by omega,rfl,Int.le_refl _⟩
  case bb0 =>
   rintro n3 ρ0 w2 ho4 ⟨a,n1,c1,A1,bs1,hs0_6,hs0_5,hn0,H5,ha0,ha1,hsc,hn1⟩
   obtain ⟨j0,rfl⟩:=ho4.shape2 hs0_6 hs0_5
   clear ho4 hs0_6 hs0_5
   subst hn0
   have z6:=(H5.fix (i:=1) rfl).size
   refine aD (cT (zm (J a) Z (zm (J o) Z ?_)))
   have hz7:=Bc o
   have hz8:=Bt (o:=o) (by omega) (by omega)
   refine aU call229 (sz_ _ o (by omega) (by omega)) Z Z Z ?_
   rintro _ w9 ⟨rfl,g10⟩
   have H11:=H5.grow g10
   have z12:=g10.size
   refine zc ((a:Int) < ((Af o):Int)) Z (fun r hr=>bL Z Z hr) (fun h13=>?_) (fun h13=>?_)
   ·refine cS (aE Z (aA (aQ (aG (cT ?_)))))
    have hlt:a < Af o:=h13
    have hao:a ≤ 256:=by omega
    refine zm (J a) Z (zm (J o) Z (zg Z (bY (cs:=[(J a),(J o)]) bd133 Z) (bG (cs:=[(J 0),(J 0)]) zeroValue133 Z Z Z ?_)))
    intro w14 b15 hb16 hz17 g18 o19
    have H20:=H11.newB g18 o19 (by omega)
    have z21:=g18.size
    refine bE (vs:=[(J a),(J o)]) (cs':=[(J a),(J o)]) sizeOf133 (H20.ob (i:=0) Z) Z Z Z Z Z Z ?_
    intro w22 hz23 g24 o25
    have H26:Sp [Aa b15 133 [(J a),(J o)],Ai 133 2 A1 n1 c1 (Cq bs1),Bd w Bl] w22:=H20.setB (i:=0) rfl g24 o25 rfl
    have z27:=g24.size
    refine cS (aD (aG ?_))
    rw [hot] at H26
    refine aK (fun t=>(Nat.ble 15 t && Nat.ble t 28)) (fun nL ρ wl => ∃ (j:Nat),nL = 0 + j∧Sp [Aa b15 133 [(J a),(J (j:Int))],Ai 133 2 A1 n1 c1 (Cq bs1),Bd w Bl] wl∧(j:Int) ≤ o ∧ ∀ i3:Nat,j < i3 → i3 ≤ o.toNat → clearB o (ros.map RObj.blk) ⟨a,(i3:Int)⟩ = false) (0 + ot) ?aa1 ?bb1
    case aa1 =>
     exact ⟨ot,rfl,H26,by omega,fun i3 h1 h2=>by omega⟩
    case bb1 =>
     rintro n29 ρ1 w28 ho30 ⟨j,hn1,H31,hj,hnc⟩
     obtain ⟨j1,rfl⟩:=ho30.shape0
     clear ho30
     subst hn1
     have z32:=(H31.fix (i:=2) rfl).size
     refine aD (cT (zg Z (Cg (b:=⟨b15,1,none⟩) Z Z) (zl (J (j:Int)) Bw (H31.ob (i:=0) Z) Z ?_)))
     refine zc ((0:Int) < ((j:Int):Int)) Z (fun r hr=>bN Z Z hr) (fun h33=>?_) (fun h33=>?_)
     ·refine zm bT Z (zm (J o) Z (zg Z (bW Z (Aj (cs:=[(J a),(J (j:Int))]) wh133 (H31.ob (i:=0) Z).cl)) (zm (.slice A n c) Z (aU call268 (clear_ _ w28.heap.size o (⟨a,(j:Int)⟩:Blk) ros A n c ((hr.st0 (H31.fix (i:=2) Z)).more (by omega)) (by first | assumption | omega) (Nat.le_refl _) (by omega) (by first | assumption | omega) (by first | assumption | omega | (dsimp only; omega)) (by first | assumption | omega | (dsimp only; omega)) hx) Z Z Z ?_))))
      rintro _ w34 ⟨rfl,g35⟩
      have H36:=H31.grow g35
      have z37:=g35.size
      rcases hb38:(clearB o (ros.map RObj.blk) (⟨a,(j:Int)⟩:Blk)) with _ | _
      ·refine zg Z (bC (b:=false) Z) (zT bT Z (cS (aE Z (aA (aQ (aG (aL (zg Z (Cg (b:=⟨b15,1,none⟩) Z Z) (zl (J (j:Int)) Bw (H36.ob (i:=0) Z) Z (zg Z (bJ (r:=((j - 1:Nat):Int)) Z Z (by rw [Dl (by omega) (by omega)]; omega)) (zg Z (Cg (b:=⟨b15,1,none⟩) Z Z) (bE (vs:=[(J ((j - 1:Nat):Int))]) (cs':=[(J a),(J ((j - 1:Nat):Int))]) sizeOf3 (H36.ob (i:=0) Z) Z Z Z Z Z Z ?_))))))))))))
       intro w39 hz40 g41 o42
       have H43:Sp [Aa b15 133 [(J a),(J ((j - 1:Nat):Int))],Ai 133 2 A1 n1 c1 (Cq bs1),Bd w Bl] w39:=H36.setB (i:=0) rfl g41 o42 rfl
       have z44:=g41.size
       refine aM (inB.n (aQ ?_))
       refine ⟨(by repeat (first | exact aJ _ _ | exact aH _ _ | refine aI ?_ Z _ | refine cR ?_ (by intro t ht; simp only [Bool.or_eq_false_iff,Bool.and_eq_false_iff,ble_f,beq_f] at ht ⊢; omega))),_,?_,j - 1,rfl,H43,by omega,fun i3 h1 h2=>(Nat.lt_or_ge j i3).elim (fun h=>hnc i3 h h2) (fun h=>by rw [show i3 = j by omega]; exact hb38)⟩
       omega
      ·refine zg Z (bC (b:=true) Z) (zT bF Z (cS (aF Z (aC (aS (aS (Bo (aQ (aD (aD ?_))))))))))
       have htop:topO o (ros.map RObj.blk) a o.toNat = j:=topO_is (by omega) hnc (by first | exact .inl (by omega) | exact .inr hb38)
       have hwj:=Bt (o:=(j:Int)) (by omega) (by omega)
       have hwj2:=Bc (j:Int)
       refine aL (zm (J o) Z (zg Z (bW Z (Aj (cs:=[(J a),(J (j:Int))]) wh133 (H36.ob (i:=0) Z).cl)) (zm (.slice A n c) Z (aU call268 (clear_ _ w34.heap.size o (⟨a,(j:Int)⟩:Blk) ros A n c ((hr.st0 (H36.fix (i:=2) Z)).more (by omega)) (by first | assumption | omega) (Nat.le_refl _) (by omega) (by first | assumption | omega) (by first | assumption | omega | (dsimp only; omega)) (by first | assumption | omega | (dsimp only; omega)) hx) Z Z Z ?_))))
       rintro _ w45 ⟨rfl,g46⟩
       have H47:=H36.grow g46
       have z48:=g46.size
       rcases hb49:(clearB o (ros.map RObj.blk) (⟨a,(j:Int)⟩:Blk)) with _ | _
       ·refine cS (aF Z (aA (aQ (aL (zm (J a) Z (zg Z (Cg (b:=⟨b15,1,none⟩) Z Z) (zl (J (j:Int)) Bw (H47.ob (i:=0) Z) Z ?_)))))))
        have hz50:=Bc ((j:Int):Int)
        have hz51:=Bt (o:=((j:Int):Int)) (by omega) (by omega)
        refine aU call229 (sz_ _ ((j:Int):Int) (by omega) (by omega)) Z Z Z ?_
        rintro _ w52 ⟨rfl,g53⟩
        have H54:=H47.grow g53
        have z55:=g53.size
        refine zg Z (bI (r:=a + (Af ((j:Int):Int))) Z Z (Dl (by omega) (by omega))) (za (J (a + (Af ((j:Int):Int)))) Z (aM (inB.n (aQ ?_))))
        refine ⟨(by repeat (first | exact aJ _ _ | exact aH _ _ | refine aI ?_ Z _ | refine cR ?_ (by intro t ht; simp only [Bool.or_eq_false_iff,Bool.and_eq_false_iff,ble_f,beq_f] at ht ⊢; omega))),_,?_,a + Af (j:Int),n1,c1,A1,bs1,rfl,rfl,rfl,(H54.sel [1,2] (by decide) Z),by omega,by omega,by rw [← hsc,scan_step (by omega) ha0 hlt htop,if_neg (by rw [hb49]; decide),List.nil_append],by omega⟩
        omega
       ·refine cS (aE Z (aL (zm (.slice A1 n1 c1) Z (zg Z (bW Z (Aj (cs:=[(J a),(J (j:Int))]) wh133 (H47.ob (i:=0) Z).cl)) (cF (cs:=[(J a),(J (j:Int))]) underlying45 sizeOf133 ze45 Z Z Z (by decide) Z Z Z ?_)))))
        intro w56 b57 hb58 hz59 g60 o61
        have H62:=H47.newB g60 o61 (by omega)
        have z63:=g60.size
        refine cL (base:=0) (xss:=(Cq bs1)) (yss:=(Cq ([⟨a,(j:Int)⟩]))) el45 (H62.wr (i:=2) Z) Z (Ob.rd1 (H62.ob (i:=0) Z) Z) Z (by simp only [Aq,Au,Ar,Am,Ak,Ap,List.length_append,List.length_cons,List.length_nil,List.length_take,List.length_drop,List.length_map,Cr,Dp,Bj,Bk,Do]; try omega) (blks_one _) (by omega) (by omega) (by omega) Z Z ?_
        intro w65 A66 c67 g68 ow69 nx70
        have H71:Sp [Aa b57 133 [(J a),(J (j:Int))],Aa b15 133 [(J a),(J (j:Int))],Ai 133 2 A66 (n1 + 1) c67 (Cq (bs1 ++ [⟨a,(j:Int)⟩])),Bd w Bl] w65:=H62.setR (i:=2) rfl g68 ((blks_app _ _).symm ▸ ow69) nx70 rfl
        have z72:=g68.size
        refine za (.slice A66 (n1 + 1) c67) Z (cS (aL (zm (J a) Z (zg Z (Cg (b:=⟨b15,1,none⟩) Z Z) (zl (J (j:Int)) Bw (H71.ob (i:=1) Z) Z ?_)))))
        have hz73:=Bc ((j:Int):Int)
        have hz74:=Bt (o:=((j:Int):Int)) (by omega) (by omega)
        refine aU call229 (sz_ _ ((j:Int):Int) (by omega) (by omega)) Z Z Z ?_
        rintro _ w75 ⟨rfl,g76⟩
        have H77:=H71.grow g76
        have z78:=g76.size
        refine zg Z (bI (r:=a + (Af ((j:Int):Int))) Z Z (Dl (by omega) (by omega))) (za (J (a + (Af ((j:Int):Int)))) Z (aM (inB.n (aQ ?_))))
        refine ⟨(by repeat (first | exact aJ _ _ | exact aH _ _ | refine aI ?_ Z _ | refine cR ?_ (by intro t ht; simp only [Bool.or_eq_false_iff,Bool.and_eq_false_iff,ble_f,beq_f] at ht ⊢; omega))),_,?_,a + Af (j:Int),n1 + 1,c67,A66,bs1 ++ [⟨a,(j:Int)⟩],rfl,rfl,rfl,(H77.sel [2,3] (by decide) Z),by omega,by omega,by rw [← hsc,scan_step (by omega) ha0 hlt htop,if_pos hb49,List.append_assoc],by omega⟩
        omega
     ·refine zm bF Z (zo Z (zo Z (zo Z (zo Z (zo Z (zF bF Z (cS (aF Z (aC (aS (aS (Bo (aQ (aD (aD ?_)))))))))))))))
      have htop:topO o (ros.map RObj.blk) a o.toNat = j:=topO_is (by omega) hnc (by first | exact .inl (by omega) | exact .inr h33)
      have hwj:=Bt (o:=(j:Int)) (by omega) (by omega)
      have hwj2:=Bc (j:Int)
      refine aL (zm (J o) Z (zg Z (bW Z (Aj (cs:=[(J a),(J (j:Int))]) wh133 (H31.ob (i:=0) Z).cl)) (zm (.slice A n c) Z (aU call268 (clear_ _ w28.heap.size o (⟨a,(j:Int)⟩:Blk) ros A n c ((hr.st0 (H31.fix (i:=2) Z)).more (by omega)) (by first | assumption | omega) (Nat.le_refl _) (by omega) (by first | assumption | omega) (by first | assumption | omega | (dsimp only; omega)) (by first | assumption | omega | (dsimp only; omega)) hx) Z Z Z ?_))))
      rintro _ w79 ⟨rfl,g80⟩
      have H81:=H31.grow g80
      have z82:=g80.size
      rcases hb83:(clearB o (ros.map RObj.blk) (⟨a,(j:Int)⟩:Blk)) with _ | _
      ·refine cS (aF Z (aA (aQ (aL (zm (J a) Z (zg Z (Cg (b:=⟨b15,1,none⟩) Z Z) (zl (J (j:Int)) Bw (H81.ob (i:=0) Z) Z ?_)))))))
       have hz84:=Bc ((j:Int):Int)
       have hz85:=Bt (o:=((j:Int):Int)) (by omega) (by omega)
       refine aU call229 (sz_ _ ((j:Int):Int) (by omega) (by omega)) Z Z Z ?_
       rintro _ w86 ⟨rfl,g87⟩
       have H88:=H81.grow g87
       have z89:=g87.size
       refine zg Z (bI (r:=a + (Af ((j:Int):Int))) Z Z (Dl (by omega) (by omega))) (za (J (a + (Af ((j:Int):Int)))) Z (aM (inB.n (aQ ?_))))
       refine ⟨(by repeat (first | exact aJ _ _ | exact aH _ _ | refine aI ?_ Z _ | refine cR ?_ (by intro t ht; simp only [Bool.or_eq_false_iff,Bool.and_eq_false_iff,ble_f,beq_f] at ht ⊢; omega))),_,?_,a + Af (j:Int),n1,c1,A1,bs1,rfl,rfl,rfl,(H88.sel [1,2] (by decide) Z),by omega,by omega,by rw [← hsc,scan_step (by omega) ha0 hlt htop,if_neg (by rw [hb83]; decide),List.nil_append],by omega⟩
       omega
      ·refine cS (aE Z (aL (zm (.slice A1 n1 c1) Z (zg Z (bW Z (Aj (cs:=[(J a),(J (j:Int))]) wh133 (H81.ob (i:=0) Z).cl)) (cF (cs:=[(J a),(J (j:Int))]) underlying45 sizeOf133 ze45 Z Z Z (by decide) Z Z Z ?_)))))
       intro w90 b91 hb92 hz93 g94 o95
       have H96:=H81.newB g94 o95 (by omega)
       have z97:=g94.size
       refine cL (base:=0) (xss:=(Cq bs1)) (yss:=(Cq ([⟨a,(j:Int)⟩]))) el45 (H96.wr (i:=2) Z) Z (Ob.rd1 (H96.ob (i:=0) Z) Z) Z (by simp only [Aq,Au,Ar,Am,Ak,Ap,List.length_append,List.length_cons,List.length_nil,List.length_take,List.length_drop,List.length_map,Cr,Dp,Bj,Bk,Do]; try omega) (blks_one _) (by omega) (by omega) (by omega) Z Z ?_
       intro w98 A99 c100 g101 ow102 nx103
       have H104:Sp [Aa b91 133 [(J a),(J (j:Int))],Aa b15 133 [(J a),(J (j:Int))],Ai 133 2 A99 (n1 + 1) c100 (Cq (bs1 ++ [⟨a,(j:Int)⟩])),Bd w Bl] w98:=H96.setR (i:=2) rfl g101 ((blks_app _ _).symm ▸ ow102) nx103 rfl
       have z105:=g101.size
       refine za (.slice A99 (n1 + 1) c100) Z (cS (aL (zm (J a) Z (zg Z (Cg (b:=⟨b15,1,none⟩) Z Z) (zl (J (j:Int)) Bw (H104.ob (i:=1) Z) Z ?_)))))
       have hz106:=Bc ((j:Int):Int)
       have hz107:=Bt (o:=((j:Int):Int)) (by omega) (by omega)
       refine aU call229 (sz_ _ ((j:Int):Int) (by omega) (by omega)) Z Z Z ?_
       rintro _ w108 ⟨rfl,g109⟩
       have H110:=H104.grow g109
       have z111:=g109.size
       refine zg Z (bI (r:=a + (Af ((j:Int):Int))) Z Z (Dl (by omega) (by omega))) (za (J (a + (Af ((j:Int):Int)))) Z (aM (inB.n (aQ ?_))))
       refine ⟨(by repeat (first | exact aJ _ _ | exact aH _ _ | refine aI ?_ Z _ | refine cR ?_ (by intro t ht; simp only [Bool.or_eq_false_iff,Bool.and_eq_false_iff,ble_f,beq_f] at ht ⊢; omega))),_,?_,a + Af (j:Int),n1 + 1,c100,A99,bs1 ++ [⟨a,(j:Int)⟩],rfl,rfl,rfl,(H110.sel [2,3] (by decide) Z),by omega,by omega,by rw [← hsc,scan_step (by omega) ha0 hlt htop,if_pos hb83,List.append_assoc],by omega⟩
       omega
   ·refine cS (aF Z (aC (aS (aS (Bo (aQ (cT (zm (.slice A1 n1 c1) Z (za (.slice A1 n1 c1) Z (cS (aB (aO (v:=(.slice A1 n1 c1)) (Ba Z Z) ?_))))))))))))
    have hfin:bs1 = Dq (Af o) (ros.map RObj.blk) [⟨0,o⟩]:=by rw [← scan_is ho.1 ho.2 512 (by omega),← hsc,scan_end (by omega),List.append_nil]
    rw [hfin] at H11
    exact ⟨_,_,_,rfl,(H11.sel [0,1] (by decide) Z),by have:=Bc o; omega⟩
end Go.Proofs.YtfokljnhllflbaaGreat
namespace Go.Eng
open Go Go.RowKit
theorem robjs_app (l m:List RObj):Cp (l ++ m) = Cp l ++ Cp m:=by simp [Cp]
theorem map_blk {ros:List RObj} {os:List Obj} {w:World} {B:Nat} (h1:ros.length = os.length ∧ ∀ (i:Nat) (ro:RObj) (o:Obj),ros[i]? = some ro → os[i]? = some o → ObjR w B ro o):ros.map RObj.blk = os.map Obj.blk:=by
  apply List.ext_getElem?
  intro i
  simp only [List.getElem?_map]
  cases e1:ros[i]? with
  | none =>
    rw [List.getElem?_eq_none_iff] at e1
    rw [List.getElem?_eq_none (by rw [← h1.1]; exact e1)]; rfl
  | some ro =>
    have hi:i < os.length:=by rw [← h1.1]; exact lt_len e1
    have e2:=List.getElem?_eq_getElem hi
    rw [e2]
    simp only [Option.map_some]
    rw [(h1.2 i ro _ e1 e2).b]
theorem obs_bd {ros:List RObj} {os:List Obj} (h:ros.map RObj.blk = os.map Obj.blk) (ho : ∀ o ∈ os,(0 ≤ o.blk.ord∧o.blk.ord ≤ 6)∧0 ≤ o.blk.at_∧o.blk.at_ ≤ 2147483647) : ∀ x ∈ ros,(0 ≤ x.blk.ord∧x.blk.ord ≤ 8)∧0 ≤ x.blk.at_∧x.blk.at_ ≤ 2147483647:=fun x hx=>by
  have:x.blk ∈ ros.map RObj.blk:=List.mem_map.2 ⟨x,hx,rfl⟩
  rw [h] at this
  obtain ⟨o,h1,e⟩:=List.mem_map.1 this
  have:=ho o h1
  rw [e] at this
  omega
theorem rdT_ok {bs:List UInt8} {x:Nat} (h:rdN bs = some ((x:Int),bs.drop 4)) (h1:x ≤ 65536) (h2:x + 4 ≤ bs.length):rdT bs = some ((bs.drop 4).take x,bs.drop (4 + x)):=by
  unfold rdT
  simp only [h]
  rw [if_neg (by omega),if_neg (by rw [List.length_drop]; omega),Int.toNat_natCast,List.drop_drop]
theorem rdT_no1 {bs:List UInt8} (h:rdN bs = none):rdT bs = none:=by unfold rdT; simp only [h]
theorem rdT_no2 {bs r:List UInt8} {x:Int} (h:rdN bs = some (x,r)) (h1:65536 < x):rdT bs = none:=by unfold rdT; simp only [h]; rw [if_pos h1]
theorem rdT_no3 {bs:List UInt8} {x:Int} (h:rdN bs = some (x,bs.drop 4)) (h1:(bs.length:Int) - 4 < x) (h2:4 ≤ bs.length):rdT bs = none:=by
  unfold rdT
  simp only [h]
  split
  · rfl
  · rw [if_pos (by rw [List.length_drop]; omega)]
theorem rowF_mk {s s1 s2 s3 s4:SB} {c q d v:Int} (h1:numF s = (c,s1)) (h2:numF s1 = (q,s2)) (h3:numF s2 = (d,s3)) (h4:intF s3 = (v,s4)):rowF s = (⟨c,q,d,v⟩,s4):=by
  unfold rowF
  simp only [h1,h2,h3,h4]
end Go.Eng
