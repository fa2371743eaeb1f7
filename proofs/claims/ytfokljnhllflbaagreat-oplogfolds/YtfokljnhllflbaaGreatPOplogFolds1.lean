/- Part 2 of the proof of OplogFolds: EngMake, EngRn, EngText, EngSp, EngAt, EngAny, Spec9, Spec10, Spec11, EngSnap, Spec12, EngStr, LawKit, Open, Eqs, C0, C1, C2, C3, SortLay, Sort, C4. -/
import Derived.Deep.Quiet
import Derived.Ground.NamesProg
import Derived.Ground.SlgcProg
import Derived.Ground.SlsfProg
import Derived.JoinedOf
import Derived.Laws.BytesString
import Derived.Laws.MakeOwn
import Derived.Laws.Strings
import Derived.Lib.AppendZeros
import Derived.Lib.ConvBytes
import Derived.Lib.Overlaps
import Derived.Maps.AppendAt
import Derived.OrdersHeld
import Derived.ProofKit
import Derived.Recover
import Derived.ScopeJumps
import Derived.Shelf.SlSortCmp.NoneTotal
import Derived.Shelf.SlSortCmp.WholeK
import Derived.Shelf.SlicesG.Cmp
import Derived.Shelf.Small.Bits
import Derived.Sort.OwnSortedInts
import Derived.StillTail
import Derived.Test.YtfokljnhllflbaaGreatProg
import Derived.WalkKit
import Derived.WalkLawsBesides
import Derived.WalkSpells
import Derived.Test.YtfokljnhllflbaaGreatPOplogFolds0
set_option linter.unusedSimpArgs false
set_option linter.unusedVariables false
namespace Go.Eng
open Go Go.RowKit
section
variable {P:Program} {N:Nat} {Q Q':Exit → Da → World → Prop} {ρ:Da} {w:World} {ops rest:List Oper} {d:Option Tmp} {ty:TypeId} {ps:String} {af:Array Edge} {gu:Option (Nat × Bool)}
variable {x y z:Operand} {v u:Value} {t t' ty':TypeId}
theorem RL.mk0 {e k bytes c dd:Nat} {kl kc:IntKind} {J:Int} (he:Elt P t e k bytes) (hx:ev ρ x = .int kl 0) (hy:ev ρ y = .int kc J) (hJ:J = (c:Int)) (hb:bytes * c ≤ 281474976710656) (h63:c ≤ 9223372036854775807)
    (hg:gd ops ρ ⟨some dd,.makeSlice t x y,ty,ps,af,gu⟩ = true) (hN:Nat.blt dd N = true)
    (h : ∀ w' b, b = w.heap.size → w.grownBy w' none → Ow w' w.heap.size e k (some ⟨b, 0, none⟩) c [] → RL P N ops Q rest (upd ρ dd (.slice (some ⟨b, 0, none⟩) 0 c)) w') :
    RL P N ops Q (⟨some dd,.makeSlice t x y,ty,ps,af,gu⟩ :: rest) ρ w:=by
  subst hJ
  obtain ⟨i,z,hi,hz,hsize,hby,hzs⟩:=he.inf
  obtain ⟨w',h1,h2,h3⟩:=run_make_own (P:=P) w w.heap.size t e i z k he.ty hi hz hsize kl kc c (by rw [hby]; exact hb) (by simp only [maxLen]; omega) (Nat.le_refl _)
  refine aN (w' := w') Z hg hN ?_ (h w' _ Z h3 ⟨by simpa using h2, by simp⟩)
  unfold Ex
  refine Cc ?_
  rw [hx,hy]
  exact h1
end
def Cr (u:Nat):List UInt8:=[UInt8.ofNat (u / 16777216),UInt8.ofNat (u / 65536),UInt8.ofNat (u / 256),UInt8.ofNat (u / 1)]
def Dp (u:Nat):List UInt8:=[UInt8.ofNat (u / 72057594037927936),UInt8.ofNat (u / 281474976710656),UInt8.ofNat (u / 1099511627776),UInt8.ofNat (u / 4294967296),UInt8.ofNat (u / 16777216),UInt8.ofNat (u / 65536),UInt8.ofNat (u / 256),UInt8.ofNat (u / 1)]
theorem shrN {u n k m:Nat} (hn:n < 64) (hm:2 ^ n = m) (hk:k = n):((u:Nat):Int).fdiv (2 ^ (min ((k:Nat):Int).toNat (IntKind.bits .u64))) = ((u / m:Nat):Int):=by
  subst hk; subst hm
  have e:min ((k:Nat):Int).toNat (IntKind.bits .u64) = k:=by
    show min k 64 = k
    omega
  rw [e,Int.fdiv_eq_ediv_of_nonneg _ (by exact_mod_cast Nat.zero_le _)]
  norm_cast
theorem wrapB (x:Nat):IntKind.u8.wrap (x:Int) = ((UInt8.ofNat x).toNat:Int):=by
  have:IntKind.u8.wrap (x:Int) = (x:Int) % 256:=by simp [IntKind.wrap,IntKind.bits,IntKind.signed]
  rw [this]
  simp
end Go.Eng
namespace Go.Eng
def u64of (x:Int):Nat:=(IntKind.u64.wrap x).toNat
theorem u64of_eq (x:Int):IntKind.u64.wrap x = ((u64of x:Nat):Int):=by
  unfold u64of
  have:0 ≤ IntKind.u64.wrap x:=by rw [IntKind.wrap_u64]; omega
  omega
end Go.Eng
namespace Go.Eng
open Go Go.RowKit
def Rn (w:World) (p k:Nat) (A:Option Addr) (xss:List (List Value)):Prop :=
  (∀ x ∈ xss,x.length = k)∧(xss ≠ [] → ∃ ad,A = some ad∧ad.block ≠ p∧ad.block < w.heap.size ∧ ∀ i x,xss[i]? = some x → Cl w (ad.add (i * k)) x)
section
variable {w w':World} {p k B b T:Nat} {A:Option Addr} {xss:List (List Value)} {cs:List Value}
theorem Rn.rd (h:Rn w p k A xss):Rd w w.heap.size k A xss:=⟨h.1,fun hn=>by obtain ⟨ad,h1,_,h3,h4⟩:=h.2 hn; exact ⟨ad,h1,h3,h4⟩⟩
theorem Rd.rn (h:Rd w B k A xss) (hB:B ≤ p) (hw:B ≤ w.heap.size):Rn w p k A xss:=⟨h.1,fun hn=>by obtain ⟨ad,h1,h2,h3⟩:=h.2 hn; exact ⟨ad,h1,by omega,by omega,h3⟩⟩
theorem Rn.st0 (h:Rn w p k A xss) (g:w.grownBy w' none):Rn w' p k A xss :=
  ⟨h.1,fun hn=>by obtain ⟨ad,h1,h2,h3,h4⟩:=h.2 hn; exact ⟨ad,h1,h2,Nat.lt_of_lt_of_le h3 g.size,fun i x hx=>(h4 i x hx).st0 g⟩⟩
theorem Rn.st1 (h:Rn w p k A xss) (g:w.grownBy w' (some p)):Rn w' p k A xss :=
  ⟨h.1,fun hn=>by obtain ⟨ad,h1,h2,h3,h4⟩:=h.2 hn; exact ⟨ad,h1,h2,Nat.lt_of_lt_of_le h3 g.size,fun i x hx=>(h4 i x hx).st1 g (by rw [add_block]; exact h2)⟩⟩
theorem Rn.stN (h:Rn w p k A xss) (g:w.grownBy w' (some b)) (hb:w.heap.size ≤ b):Rn w' p k A xss :=
  ⟨h.1,fun hn=>by obtain ⟨ad,h1,h2,h3,h4⟩:=h.2 hn; exact ⟨ad,h1,h2,Nat.lt_of_lt_of_le h3 g.size,fun i x hx=>(h4 i x hx).st1 g (by rw [add_block]; omega)⟩⟩
end
def Ci (l:List Int):List UInt8:=(l.map fun x=>Cr x.toNat).flatten
def encW (l:List Int):List UInt8:=(l.map fun x=>Dp (u64of x)).flatten
theorem encN_snoc (l:List Int) (x:Int):Ci (l ++ [x]) = Ci l ++ Cr x.toNat:=by simp [Ci]
theorem encW_snoc (l:List Int) (x:Int):encW (l ++ [x]) = encW l ++ Dp (u64of x):=by simp [encW]
theorem Bj : ∀ l:List Int,(Ci l).length = 4 * l.length
  | []=>rfl
  | x :: l=>by have:=Bj l; simp only [Ci,List.map_cons,List.flatten_cons,List.length_append,List.length_cons] at this ⊢; rw [this]; simp only [Cr,List.length_cons,List.length_nil]; omega
theorem Bk : ∀ l:List Int,(encW l).length = 8 * l.length
  | []=>rfl
  | x :: l=>by have:=Bk l; simp only [encW,List.map_cons,List.flatten_cons,List.length_append,List.length_cons] at this ⊢; rw [this]; simp only [Dp,List.length_cons,List.length_nil]; omega
end Go.Eng
namespace Go.Eng
open Go Go.RowKit
section
variable {P:Program} {N:Nat} {Q Q':Exit → Da → World → Prop} {ρ:Da} {w:World} {ops rest:List Oper} {d:Option Tmp} {ty:TypeId} {ps:String} {af:Array Edge} {gu:Option (Nat × Bool)}
variable {x y z:Operand} {v u:Value} {t t' ty':TypeId}
theorem bcs_flat : ∀ l:List UInt8,(Df l).flatten = l.map bc
  | []=>rfl
  | b :: l=>by have:=bcs_flat l; simp only [Df,List.map_cons,List.flatten_cons] at this ⊢; rw [this]; rfl
theorem firstCells_text (w:World) (l:List UInt8):(Builtin.firstCells 1 l.length (.string (tx l))).run P w = .ok (Df l).flatten.toArray w:=by
  have e:((tx l).extract 0 l.length).data = l.toArray:=by
    have:l.length = (tx l).size:=rfl
    rw [this]
    simp [tx]
  have e2:(l.toArray.map fun b=>Value.int .u8 (b.toNat:Int)) = (Df l).flatten.toArray:=by
    apply Array.ext'
    rw [bcs_flat]
    simp
    exact fun a _=>rfl
  simp only [Builtin.firstCells,e]
  rw [e2]; rfl
theorem bcs_flat_len (l:List UInt8):(Df l).flatten.length = l.length:=by
  rw [flat_len (k:=1) (by intro x hx; obtain ⟨b,_,rfl⟩:=List.mem_map.1 hx; rfl),Aq]; omega
theorem RL.appT {e bytes base n c dd:Nat} {A:Option Addr} {xs l:List UInt8} (he:Elt P t e 1 bytes) (hst:P.underlying t' = some .string) (own:Wr w base e 1 A n c (Df xs)) (hx:ev ρ x = .slice A n c)
    (hy:ev ρ y = .string (tx l)) (hA:A ≠ none) (hsz:(n + l.length) * bytes ≤ 140737488355328) (hmax:n + l.length ≤ 9223372036854775807) (hbase:base ≤ w.heap.size)
    (hg:gd ops ρ ⟨some dd,.call ⟨.builtin .append, #[x,y], #[t,t']⟩,ty,ps,af,gu⟩ = true) (hN:Nat.blt dd N = true)
    (h : ∀ w' A' c', w.grownBy w' (Value.slice A n c).ownBlock → Wr w' base e 1 A' (n + l.length) c' (Df (xs ++ l)) → Nx w A A' → RL P N ops Q rest (upd ρ dd (.slice A' (n + l.length) c')) w') :
    RL P N ops Q (⟨some dd,.call ⟨.builtin .append, #[x,y], #[t,t']⟩,ty,ps,af,gu⟩ :: rest) ρ w:=by
  obtain ⟨i,z,hi,hz,hsize,hby,hzs⟩:=he.inf
  have hl:=own.len
  have hxf:(Df xs).flatten.length = n:=by rw [bcs_flat_len,← Aq,hl]
  have hyf:=bcs_flat_len l
  have happ:(Df (xs ++ l)).flatten = (Df xs).flatten ++ (Df l).flatten:=by simp [Df]
  have hlen:(Df (xs ++ l)).length = n + l.length:=by rw [Aq,List.length_append,← Aq xs,hl]
  have hall : ∀ z ∈ Df (xs ++ l),z.length = 1:=by intro x hx; obtain ⟨b,_,rfl⟩:=List.mem_map.1 hx; rfl
  rcases own.row with ⟨rfl,_⟩ | ⟨g,off,cs,rfl,hb,ho,hle,hnc,hcm,htk⟩
  · exact absurd Z hA
  · simp only [Nat.mul_one] at hle htk
    rcases Nat.lt_or_ge c (n + l.length) with hroom | hroom
    · have hfo:=(Src.ob (P:=P) (k:=1) (m:=n) (c:=c) ho (by simpa using htk) (by omega)).rd w.drew rfl n (Nat.le_refl _)
      rw [Nat.mul_one,List.take_of_length_le (by omega)] at hfo
      have hf:=firstCells_text (P:=P) w.drew l
      have hn : ¬ (n + l.length ≤ c):=by omega
      have h63' : ¬ (9223372036854775807 < ((n:Int) + (l.length:Int))):=by omega
      have h48:Builtin.nextslicecap (n + l.length) c * i.bytes ≤ 281474976710656:=growslice_fits (by omega) (by rw [hby]; exact hsz)
      have h48' : ¬ (281474976710656 < Builtin.nextslicecap (n + l.length) c * i.bytes):=by omega
      have hge:=grownCap_ge w (n + l.length) c e
      refine aN (w':=w.drew.alloc (.cells ((Df xs).flatten.toArray ++ (Df l).flatten.toArray ++ Builtin.zeroCells z.cells (grownCap w (n + l.length) c e - (n + l.length))) e)) Z hg hN ?_
        (h _ (some ⟨w.heap.size,0,none⟩) (grownCap w (n + l.length) c e) ⟨rfl,rfl,rfl,by simp,fun j hj _=>Go.heap_alloc_old w.drew _ hj⟩ ⟨hlen,hall,.inr ⟨w.heap.size,0,(Df xs).flatten ++ (Df l).flatten ++ (Builtin.zeroCells z.cells (grownCap w (n + l.length) c e - (n + l.length))).toList,rfl,hbase,?_,?_,hge,grownCap_le_maxLen w _ _ _ (by simp only [maxLen]; omega),?_⟩⟩ (fun g' hg'=>.inr (by simp only [bk,Option.map_some,Option.some.injEq] at hg'; omega)))
      · unfold Ex
        simp only [execOp,resolve,invoke,builtin,Sem.run_bind,Sem.run_pure,Result.andThen_ok,List.map_toArray,List.map_cons,List.map_nil,hx,hy]
        simp [Builtin.append_,run_underlying he.ty,run_underlying hst,sizeOf,typeInfo,zeroValue,hi,hz,hsize,Builtin.lenOf,tx_size,hn,h63',h48',Question.forced,hf,hfo,newRow,grownCap]
        congr 2
        apply Array.ext'
        simp [List.append_assoc]
      · refine (Go.heap_alloc_new w.drew _).trans ?_
        congr 2
        apply Array.ext'
        simp [List.append_assoc]
      · simp only [List.length_append,hxf,hyf,Array.length_toList,size_zeroCells,hzs]; omega
      · rw [happ,List.drop_zero,List.take_append_of_le_length (by simp only [List.length_append]; omega),List.take_of_length_le (by simp only [List.length_append]; omega)]
    · have hf:=firstCells_text (P:=P) w l
      obtain ⟨w',h1,h2,h3,h4⟩:=store_ob (P:=P) (o:=off + n) (ys:=(Df l).flatten) ho (by omega) (bcs_one l)
      refine aN (w' := w') Z hg hN ?_ (h w' _ c h3 ⟨hlen, hall, .inr ⟨g, off, _, Z, hb, h4, by rw [pt_length (by omega)]; omega, hroom, hcm, ?_⟩⟩ (Nx.refl_ _ _))
      · unfold Ex
        simp only [execOp,resolve,invoke,builtin,Sem.run_bind,Sem.run_pure,Result.andThen_ok,List.map_toArray,List.map_cons,List.map_nil,hx,hy]
        simp [Builtin.append_,run_underlying he.ty,run_underlying hst,sizeOf,typeInfo,hi,hsize,Builtin.lenOf,tx_size,hroom,hf,add_lit,h1]
      · rw [happ,Nat.mul_one]
        have h0:=ins_room (V:=(Df l).flatten) (I:=n) (M:=l.length) htk hxf hyf (Nat.le_refl _) (by omega)
        have e0:(Df xs).flatten.drop n = []:=List.drop_eq_nil_of_le (by omega)
        have e1:(Df xs).flatten.take n = (Df xs).flatten:=List.take_of_length_le (by omega)
        rw [e0,show pt cs (off + n + l.length) [] = cs by simp [pt],e1,List.append_nil] at h0
        exact h0
end
theorem Ow.ne_none {w:World} {base e k c:Nat} {A:Option Addr} {xss:List (List Value)} (h:Ow w base e k A c xss) (hne:xss.length ≠ 0):A ≠ none:=by
  obtain ⟨ad,h1,_⟩:=h.rd.2 (by rintro rfl; exact hne rfl)
  rw [h1]; simp
end Go.Eng
namespace Go.Eng
open Go Go.RowKit
structure Chg (S:Nat → Prop) (w w':World):Prop where
  os:w'.os = w.os
  tape:w'.tape = w.tape
  output:w'.output = w.output
  size:w.heap.size ≤ w'.heap.size
  block : ∀ k,k < w.heap.size → ¬ S k → w'.heap[k]? = w.heap[k]?
theorem Chg.refl (S:Nat → Prop) (w:World):Chg S w w:=⟨rfl,rfl,rfl,Nat.le_refl _,fun _ _ _=>rfl⟩
theorem Chg.of_grow {w w':World} {row:Option Nat} (g:w.grownBy w' row):Chg (fun b=>row = some b) w w':=⟨g.os,g.tape,g.output,g.size,fun k hk hn=>g.block k hk (fun e=>hn e.symm)⟩
theorem Chg.of_grow0 {w w':World} (g:w.grownBy w' none) (S:Nat → Prop):Chg S w w':=⟨g.os,g.tape,g.output,g.size,fun k hk _=>g.block k hk (by simp)⟩
theorem Chg.grow {w w' : World} (h : Chg (fun _ => False) w w') : w.grownBy w' none := ⟨h.os, h.tape, h.output, h.size, fun k hk _ => h.block k hk (by simp)⟩
theorem Chg.trans {S:Nat → Prop} {w w1 w2:World} (h:Chg S w w1) (h2:Chg S w1 w2):Chg S w w2 :=
  ⟨h2.os.trans h.os,h2.tape.trans h.tape,h2.output.trans h.output,Nat.le_trans h.size h2.size,fun k hk hn=>(h2.block k (Nat.lt_of_lt_of_le hk h.size) hn).trans (h.block k hk hn)⟩
theorem Chg.mono {S S' : Nat → Prop} {w w' : World} (h : Chg S w w') (hs : ∀ b, S b → S' b) : Chg S' w w' := ⟨h.os, h.tape, h.output, h.size, fun k hk hn => h.block k hk (fun e => hn (hs k e))⟩
structure Atom where
  ok:(Nat → Prop) → World → Prop
  mono : ∀ {S S':Nat → Prop} {w:World},(∀ b,S b → S' b) → ok S w → ok S' w
  st : ∀ {S T:Nat → Prop} {w w':World},Chg T w w' → (∀ b,S b → ¬ T b) → ok S w → ok (fun b=>S b∧b < w.heap.size) w'
instance:Inhabited Atom:=⟨⟨fun _ _=>True,fun _ h=>h,fun _ _ h=>h⟩⟩
def Sp (l:List Atom) (w:World):Prop := ∃ S:Nat → Nat → Prop,(∀ i j b,S i b → S j b → i = j) ∧ ∀ (i:Nat) (A:Atom),l[i]? = some A → A.ok (S i) w
section
variable {w w' w0:World} {l m:List Atom} {A A':Atom} {S T:Nat → Prop}
theorem Sp.get (h:Sp l w) {i:Nat} (hi:l[i]? = some A) : ∃ S,A.ok S w:=by obtain ⟨S,_,h2⟩:=h; exact ⟨S i,h2 i A hi⟩
theorem Sp.grow (h:Sp l w) (g:w.grownBy w' none):Sp l w':=by
  obtain ⟨S,h1,h2⟩:=h
  refine ⟨fun i b=>S i b∧b < w.heap.size,fun i j b hi hj=>h1 i j b hi.1 hj.1,fun i A hi=>?_⟩
  exact A.st (Chg.of_grow0 g fun _=>False) (by simp) (h2 i A hi)
theorem Sp.turn (h : Sp l w) {i : Nat} (hi : l[i]? = some A) (hA : ∀ S, A.ok S w → ∃ S' : Nat → Nat → Prop, (∀ a b k, S' a k → S' b k → a = b) ∧ (∀ a k, S' a k → S k ∨ w.heap.size ≤ k) ∧ Chg S w w' ∧ ∀ (a : Nat) (B : Atom), m[a]? = some B → B.ok (S' a) w') :
    Sp (m ++ l.eraseIdx i) w':=by
  obtain ⟨S,h1,h2⟩:=h
  obtain ⟨S',s1,s2,ch,s3⟩:=hA (S i) (h2 i A hi)
  -- the old places of the rest
  let φ:Nat → Nat:=fun a=>if a < i then a else a + 1
  have φi : ∀ a,φ a ≠ i:=by intro a; simp only [φ]; split <;> omega
  have φinj : ∀ a b,φ a = φ b → a = b:=by intro a b; simp only [φ]; split <;> split <;> omega
  refine ⟨fun a b=>if a < m.length then S' a b else S (φ (a - m.length)) b∧b < w.heap.size,?_,?_⟩
  · intro a b k ha hb
    split at ha <;> split at hb
    · exact s1 a b k ha hb
    · rcases s2 a k ha with h3 | h3
      · exact absurd (h1 _ _ k hb.1 h3) (φi _)
      · omega
    · rcases s2 b k hb with h3 | h3
      · exact absurd (h1 _ _ k ha.1 h3) (φi _)
      · omega
    · have:=φinj _ _ (h1 _ _ k ha.1 hb.1); omega
  · intro a B ha
    by_cases hlt:a < m.length
    · rw [List.getElem?_append_left hlt] at ha
      exact B.mono (fun b hb=>by show ite _ _ _; rw [if_pos hlt]; exact hb) (s3 a B ha)
    · rw [List.getElem?_append_right (by omega),List.getElem?_eraseIdx] at ha
      have:l[φ (a - m.length)]? = some B:=by
        simp only [φ]
        split at ha
        · rename_i h4; rw [if_pos h4]; exact ha
        · rename_i h4; rw [if_neg h4]; exact ha
      exact B.mono (fun b hb=>by show ite _ _ _; rw [if_neg hlt]; exact hb) (B.st ch (fun b hb hT=>φi _ (h1 _ _ b hb hT)) (h2 _ B this))
theorem Sp.new (h : Sp l w) (g : w.grownBy w' none) (hm : ∃ S' : Nat → Nat → Prop, (∀ a b k, S' a k → S' b k → a = b) ∧ (∀ a k, S' a k → w.heap.size ≤ k) ∧ ∀ (a : Nat) (B : Atom), m[a]? = some B → B.ok (S' a) w') : Sp (m ++ l) w' := by
  obtain ⟨S,h1,h2⟩:=h
  obtain ⟨S',s1,s2,s3⟩:=hm
  refine ⟨fun a b=>if a < m.length then S' a b else S (a - m.length) b∧b < w.heap.size,?_,?_⟩
  · intro a b k ha hb
    split at ha <;> split at hb
    · exact s1 a b k ha hb
    · have:=s2 a k ha; omega
    · have:=s2 b k hb; omega
    · have:=h1 _ _ k ha.1 hb.1; omega
  · intro a B ha
    by_cases hlt:a < m.length
    · rw [List.getElem?_append_left hlt] at ha
      exact B.mono (fun b hb=>by show ite _ _ _; rw [if_pos hlt]; exact hb) (s3 a B ha)
    · rw [List.getElem?_append_right (by omega)] at ha
      exact B.mono (fun b hb=>by show ite _ _ _; rw [if_neg hlt]; exact hb) (B.st (Chg.of_grow0 g fun _=>False) (by simp) (h2 _ B ha))
theorem Sp.new1 (h : Sp l w) (g : w.grownBy w' none) (hA : A.ok S w') (hS : ∀ k, S k → w.heap.size ≤ k) : Sp (A :: l) w' :=
  Sp.new (m:=[A]) h g ⟨fun a k=>a = 0∧S k,fun a b k h1 h2=>by rw [h1.1,h2.1],fun a k h1=>hS k h1.2,fun a B ha=>by
    cases a with
    | zero=>simp at ha; subst ha; exact A.mono (fun b hb=>⟨rfl,hb⟩) hA
    | succ a=>simp at ha⟩
theorem Sp.sel (h:Sp l w) (is:List Nat) (hn:is.Nodup) (hm:is.map (fun i=>l[i]?) = m.map some):Sp m w:=by
  obtain ⟨S,h1,h2⟩:=h
  refine ⟨fun a b => ∃ i,is[a]? = some i∧S i b,?_,fun a B ha=>?_⟩
  · rintro a b k ⟨i,hi,hs⟩ ⟨j,hj,ht⟩
    have:=h1 i j k hs ht
    subst this
    obtain ⟨ha,_⟩:=List.getElem?_eq_some_iff.1 hi
    exact (List.getElem?_inj ha hn).1 (hi.trans hj.symm)
  · have e:(is.map (fun i=>l[i]?))[a]? = (m.map some)[a]? := by rw [hm]
    rw [List.getElem?_map,List.getElem?_map,ha] at e
    cases hi:is[a]? with
    | none=>rw [hi] at e; simp at e
    | some i =>
      rw [hi] at e
      simp at e
      exact B.mono (fun b hb=>⟨i,hi,hb⟩) (h2 i B e)
theorem Sp.weak (h:Sp l w) {i:Nat} (hi:l[i]? = some A) (hw : ∀ S,A.ok S w → A'.ok S w) (hm:l.set i A' = m):Sp m w:=by
  subst hm
  obtain ⟨S,h1,h2⟩:=h
  refine ⟨S,h1,fun a B ha=>?_⟩
  rw [List.getElem?_set] at ha
  split at ha
  · rename_i e
    subst e
    split at ha
    · cases ha; exact hw _ (h2 _ A hi)
    · cases ha
  · exact h2 a B ha
def Bd (w0:World) (S:Nat → Prop):Atom where
  ok T w:=(∀ b,b < w0.heap.size → ¬ S b → T b)∧Chg S w0 w
  mono h h2:=⟨fun b hb hn=>h b (h2.1 b hb hn),h2.2⟩
  st {T T' w w'} ch hT h:=⟨fun b hb hn=>⟨h.1 b hb hn,Nat.lt_of_lt_of_le hb h.2.size⟩,ch.os.trans h.2.os,ch.tape.trans h.2.tape,ch.output.trans h.2.output,Nat.le_trans h.2.size ch.size,fun k hk hn =>
    (ch.block k (Nat.lt_of_lt_of_le hk h.2.size) (hT k (h.1 k hk hn))).trans (h.2.block k hk hn)⟩
def Bl:Nat → Prop:=fun _=>False
theorem Bv (w:World):Sp [Bd w Bl] w :=
  ⟨fun i b=>i = 0∧b < w.heap.size,fun i j b h1 h2=>by rw [h1.1,h2.1],fun i A hi=>by
    cases i with
    | zero=>simp at hi; subst hi; exact ⟨fun b hb _=>⟨rfl,hb⟩,Chg.refl _ _⟩
    | succ i=>simp at hi⟩
theorem Sp.chg (h:Sp l w) {i:Nat} (hi:l[i]? = some (Bd w0 S)):Chg S w0 w:=by obtain ⟨T,h1⟩:=h.get hi; exact h1.2
theorem Sp.fix (h:Sp l w) {i:Nat} (hi:l[i]? = some (Bd w0 Bl)):w0.grownBy w none:=(h.chg hi).grow
theorem Sp.join (h : Sp l w) (h2 : Sp (m ++ [Bd w Bl]) w') : Sp (m ++ l) w' := by
  have g:=h2.fix (w0:=w) (i:=m.length) (by simp)
  obtain ⟨S,h1,h3⟩:=h2
  refine h.new g ⟨fun a k=>a < m.length∧S a k,fun a b k ha hb=>h1 a b k ha.2 hb.2,fun a k ha=>?_,fun a B ha=>?_⟩
  · rcases Nat.lt_or_ge k w.heap.size with hk | hk
    · have hf:=(h3 m.length (Bd w Bl) (by simp)).1 k hk (fun h=>h)
      have:=h1 _ _ k ha.2 hf
      omega
    · exact hk
  · obtain ⟨hlt,_⟩:=List.getElem?_eq_some_iff.1 ha
    exact B.mono (fun b hb=>⟨hlt,hb⟩) (h3 a B (by rw [List.getElem?_append_left hlt]; exact ha))
end
end Go.Eng
namespace Go.Eng
open Go Go.RowKit
def Aa (b:Nat) (T:TypeId) (cs:List Value):Atom where
  ok S w:=S b∧Ob w b T cs
  mono h h2:=⟨h b h2.1,h2.2⟩
  st ch hT h:=⟨⟨h.1,h.2.lt⟩,(ch.block b h.2.lt (hT b h.1)).trans h.2⟩
theorem Wr.cong {w w':World} {base e k n c:Nat} {A:Option Addr} {xss:List (List Value)} (h:Wr w base e k A n c xss) (hg : ∀ g,bk A = some g → w'.heap[g]? = w.heap[g]?):Wr w' base e k A n c xss:=by
  refine ⟨h.len,h.all,?_⟩
  rcases h.row with h1 | ⟨g,off,cs,rfl,hb,ho,rest⟩
  · exact .inl h1
  · exact .inr ⟨g,off,cs,rfl,hb,(hg g Z).trans ho,rest⟩
def Ai (e k:Nat) (A:Option Addr) (n c:Nat) (xss:List (List Value)):Atom where
  ok S w:=Wr w 0 e k A n c xss ∧ ∀ g,bk A = some g → S g
  mono h h2:=⟨h2.1,fun g hg=>h g (h2.2 g hg)⟩
  st ch hT h:=⟨h.1.cong fun g hg=>ch.block g (h.1.lt hg).2 (hT g (h.2 g hg)),fun g hg=>⟨h.2 g hg,(h.1.lt hg).2⟩⟩
theorem Rd.cl {w:World} {B k i:Nat} {A:Option Addr} {ad:Addr} {xss:List (List Value)} {x:List Value} (h:Rd w B k A xss) (hA:A = some ad) (hx:xss[i]? = some x):Cl w (ad.add (i * k)) x:=by
  obtain ⟨ad',h1,_,h3⟩:=h.at_ hx
  rw [hA] at h1
  injection h1 with h1
  subst h1
  exact h3
theorem Rd.sm {w:World} {B k i:Nat} {A:Option Addr} {xss:List (List Value)} {x:List Value} (h:Rd w B k A xss) (hx:xss[i]? = some x) : ∃ ad,A = some ad:=by
  obtain ⟨ad',h1,_,_⟩:=h.at_ hx
  exact ⟨ad',h1⟩
structure RdN (w:World) (S:Nat → Prop) (k:Nat) (A:Option Addr) (xss:List (List Value)):Prop where
  rd:Rd w w.heap.size k A xss
  out:xss ≠ [] → ∀ g,bk A = some g → ¬ S g
theorem Rd.stC {w w' : World} {B k : Nat} {S : Nat → Prop} {A : Option Addr} {xss : List (List Value)} (h : Rd w B k A xss) (hB : ∀ g, bk A = some g → xss ≠ [] → ¬ S g) (ch : Chg S w w') : Rd w' B k A xss :=
  ⟨h.1,fun hn=>by
    obtain ⟨ad,e,hb,hc⟩:=h.2 hn
    subst e
    refine ⟨ad,rfl,hb,fun i x hx j u hu=>?_⟩
    have h1:=hc i x hx j u hu
    have hblk:=World.block_lt_of_cell? w _ h1
    have e2:(((ad.add (i * k)).add j)).block = ad.block:=by rw [add_block,add_block]
    exact (World.cell?_of_block (ch.block _ hblk (by rw [e2]; exact hB ad.block Z hn))).trans h1⟩
theorem RdN.st {w w' : World} {k : Nat} {S : Nat → Prop} {A : Option Addr} {xss : List (List Value)} (h : RdN w S k A xss) (ch : Chg S w w') : RdN w' S k A xss :=
  ⟨(h.rd.stC (fun g hg hn=>h.out hn g hg) ch).more ch.size,h.out⟩
section
variable {w w' w0:World} {l m:List Atom} {A2:Atom} {S:Nat → Prop} {b T e k n c i:Nat} {cs cs':List Value} {A A':Option Addr} {xss yss:List (List Value)}
theorem Sp.ob (h:Sp l w) (hi:l[i]? = some (Aa b T cs)):Ob w b T cs:=by obtain ⟨S,h1⟩:=h.get hi; exact h1.2
theorem Sp.wr (h:Sp l w) (hi:l[i]? = some (Ai e k A n c xss)):Wr w 0 e k A n c xss:=by obtain ⟨S,h1⟩:=h.get hi; exact h1.1
theorem Sp.rowrd (h:Sp l w) (hi:l[i]? = some (Ai e k A n c xss)):Rd w w.heap.size k A xss:=(h.wr hi).rd
theorem Sp.cap (h:Sp l w) (hi:l[i]? = some (Ai e k A n c xss)):n ≤ c:=by
  rcases (h.wr hi).row with ⟨_,h2,h3⟩ | ⟨g,off,cs,h1,hb,ho,hl,hnc,hcm,htk⟩ <;> omega
theorem Sp.max (h:Sp l w) (hi:l[i]? = some (Ai e k A n c xss)):n ≤ maxLen:=by
  rcases (h.wr hi).row with ⟨_,h2,h3⟩ | ⟨g,off,cs,h1,hb,ho,hl,hnc,hcm,htk⟩ <;> omega
theorem Sp.len (h:Sp l w) (hi:l[i]? = some (Ai e k A n c xss)):xss.length = n:=(h.wr hi).len
theorem Sp.newB (h:Sp l w) (g:w.grownBy w' none) (ob:Ob w' b T cs) (hb:w.heap.size ≤ b):Sp (Aa b T cs :: l) w' :=
  h.new1 (S:=fun x=>x = b) g ⟨rfl,ob⟩ (fun k hk=>by omega)
theorem Sp.newR (h:Sp l w) (g:w.grownBy w' none) {base:Nat} (ow:Wr w' base e k A n c xss) (hb:w.heap.size ≤ base):Sp (Ai e k A n c xss :: l) w' :=
  h.new1 (S:=fun x=>bk A = some x) g ⟨⟨ow.len,ow.all,ow.row.imp id fun ⟨g,off,cs,h1,_,r⟩=>⟨g,off,cs,h1,Nat.zero_le _,r⟩⟩,fun g hg=>hg⟩ (fun k hk=>by have:=ow.lt hk; omega)
theorem Sp.newO (h:Sp l w) (g:w.grownBy w' none) {base:Nat} (ow:Ow w' base e k A c xss) (hn:n = xss.length) (hb:w.heap.size ≤ base):Sp (Ai e k A n c xss :: l) w':=h.newR g (ow.wr hn) hb
theorem Sp.nil_ (h:Sp l w) (e k:Nat):Sp (Ai e k none 0 0 [] :: l) w:=h.newR (Bs _ _) (Wr.nil_ w w.heap.size e k) (Nat.le_refl _)
theorem Sp.set1 (h : Sp l w) {A1 : Atom} (hi : l[i]? = some A1) (hA : ∀ S, A1.ok S w → ∃ S', A2.ok S' w' ∧ (∀ k, S' k → S k ∨ w.heap.size ≤ k) ∧ Chg S w w') (hm : l.set i A2 = m) : Sp m w' := by
  have h2 := h.turn (m := [A2]) (w' := w') hi fun S hS => by
    obtain ⟨S',a1,a2,a3⟩:=hA S hS
    exact ⟨fun a k=>a = 0∧S' k,fun a b k h1 h2=>by rw [h1.1,h2.1],fun a k hk=>a2 k hk.2,a3,fun a B ha=>by
      cases a with
      | zero=>simp at ha; subst ha; exact A2.mono (fun b hb=>⟨rfl,hb⟩) a1
      | succ a=>simp at ha⟩
  have hlt:=(List.getElem?_eq_some_iff.1 hi).1
  subst hm
  obtain ⟨R,r1,r2⟩:=h2
  refine ⟨fun j=>if j = i then R 0 else if j < i then R (j + 1) else R j,?_,?_⟩
  · intro a b k ha hb
    have key : ∀ a,(if a = i then R 0 else if a < i then R (a + 1) else R a) k → R (if a = i then 0 else if a < i then a + 1 else a) k:=by
      intro a h
      by_cases h1:a = i
      · simpa [h1] using h
      · by_cases h2:a < i
        · simpa [h1,h2] using h
        · simpa [h1,h2] using h
    have:=r1 _ _ k (key a ha) (key b hb)
    split at this <;> split at this <;> (try split at this) <;> (try split at this) <;> omega
  · intro a B ha
    rw [List.getElem?_set] at ha
    by_cases h1:a = i
    · subst h1
      rw [if_pos rfl,if_pos hlt] at ha
      cases ha
      exact A2.mono (fun b hb=>by show (if a = a then R 0 else if a < a then R (a + 1) else R a) b; rw [if_pos rfl]; exact hb) (r2 0 _ (by simp))
    · rw [if_neg (Ne.symm h1)] at ha
      by_cases h2:a < i
      · exact B.mono (fun b hb=>by show (if a = i then R 0 else if a < i then R (a + 1) else R a) b; rw [if_neg h1,if_pos h2]; exact hb) (r2 (a + 1) B (by simp only [List.singleton_append,List.getElem?_cons_succ]; rw [List.getElem?_eraseIdx,if_pos h2]; exact ha))
      · obtain ⟨j,rfl⟩ : ∃ j,a = j + 1:=⟨a - 1,by omega⟩
        exact B.mono (fun b hb=>by show (if j + 1 = i then R 0 else if j + 1 < i then R (j + 1 + 1) else R (j + 1)) b; rw [if_neg h1,if_neg h2]; exact hb) (r2 (j + 1) B (by simp only [List.singleton_append,List.getElem?_cons_succ]; rw [List.getElem?_eraseIdx,if_neg (by omega)]; exact ha))
theorem Sp.setB (h : Sp l w) (hi : l[i]? = some (Aa b T cs)) (g : w.grownBy w' (some b)) (ob : Ob w' b T cs') (hm : l.set i (Aa b T cs') = m) : Sp m w' :=
  h.set1 (A2 := Aa b T cs') hi (fun S hS => ⟨S, ⟨hS.1, ob⟩, fun k hk => .inl hk, (Chg.of_grow g).mono fun x hx => by injection hx with hx; subst hx; exact hS.1⟩) hm
theorem Sp.setR (h : Sp l w) (hi : l[i]? = some (Ai e k A n c xss)) {n' c' base : Nat} (g : w.grownBy w' (Value.slice A n c).ownBlock) (ow : Wr w' base e k A' n' c' yss) (nx : Nx w A A') (hm : l.set i (Ai e k A' n' c' yss) = m) : Sp m w' := by
  rw [own_bk] at g
  refine h.set1 (A2:=Ai e k A' n' c' yss) hi (fun S hS=>⟨fun x=>S x ∨ w.heap.size ≤ x,⟨⟨ow.len,ow.all,ow.row.imp id fun ⟨g,off,cs,h1,_,r⟩=>⟨g,off,cs,h1,Nat.zero_le _,r⟩⟩,fun x hx=>?_⟩,fun k hk=>hk,(Chg.of_grow g).mono fun x hx=>hS.2 x hx⟩) hm
  rcases nx x hx with h1 | h1
  · exact .inl (hS.2 x h1)
  · exact .inr h1
theorem Sp.eqR (h : Sp l w) (hi : l[i]? = some (Ai e k A n c xss)) {n' : Nat} (hn : n = n') (hx : xss = yss) (hm : l.set i (Ai e k A n' c yss) = m) : Sp m w := by
  subst hn; subst hx
  exact h.weak hi (fun _ hS=>hS) hm
theorem Wr.takeN {base j:Nat} (h:Wr w base e k A n c xss) (hj:j ≤ n):Wr w base e k A j c (xss.take j):=by
  refine ⟨by rw [List.length_take,h.len]; omega,fun x hx=>h.all x (List.mem_of_mem_take hx),?_⟩
  rcases h.row with ⟨h1,h2,h3⟩ | ⟨g,off,cs,h1,hb,ho,hl,hnc,hcm,htk⟩
  · exact .inl ⟨h1,by omega,h3⟩
  · refine .inr ⟨g,off,cs,h1,hb,ho,hl,by omega,hcm,?_⟩
    rw [flat_take j h.all,← htk,List.take_take,Nat.min_eq_left (Nat.mul_le_mul_right k hj)]
def dropA (A:Option Addr) (c i k:Nat):Option Addr:=if c = i then A else A.map (·.add (i * k))
theorem dropA_bk (A:Option Addr) (c i k:Nat):bk (dropA A c i k) = bk A:=by
  unfold dropA
  split
  · rfl
  · cases A with
    | none=>rfl
    | some a=>simp [bk,add_block]
theorem Rd.dropN {w:World} {B k n c:Nat} {A:Option Addr} {xss:List (List Value)} (h:Rd w B k A xss) (_hn:n ≤ c) (hc:xss.length ≤ c):Rd w B k (dropA A c n k) (xss.drop n):=h.drop hc
theorem Wr.dropN {base j:Nat} (h:Wr w base e k A n c xss) (hj:j ≤ n):Wr w base e k (dropA A c j k) (n - j) (c - j) (xss.drop j):=by
  refine ⟨by rw [List.length_drop,h.len],fun x hx=>h.all x (List.mem_of_mem_drop hx),?_⟩
  rcases h.row with ⟨h1,h2,h3⟩ | ⟨g,off,cs,h1,hb,ho,hl,hnc,hcm,htk⟩
  · subst h1
    exact .inl ⟨by unfold dropA; split <;> rfl,by omega,by omega⟩
  · subst h1
    by_cases hcj:c = j
    · have:n = j:=by omega
      subst this; subst hcj
      refine .inr ⟨g,off,cs,by simp [dropA],hb,ho,by simp only [Nat.sub_self,Nat.zero_mul]; omega,Nat.le_refl _,by omega,?_⟩
      rw [Nat.sub_self,Nat.zero_mul,List.take_zero,List.drop_eq_nil_of_le (by rw [h.len]; exact Nat.le_refl _)]; rfl
    · refine .inr ⟨g,off + j * k,cs,by simp [dropA,hcj,add_lit],hb,ho,?_,by omega,by omega,?_⟩
      · have:j * k + (c - j) * k = c * k:=by rw [← Nat.add_mul]; congr 1; omega
        omega
      · rw [flat_drop j h.all,← htk,List.drop_take,List.drop_drop]
        congr 1
        rw [← Nat.sub_mul]
theorem Sp.takeR (h:Sp l w) (hi:l[i]? = some (Ai e k A n c xss)) {j:Nat} (hj:j ≤ n) (hx:xss.take j = yss) (hm:l.set i (Ai e k A j c yss) = m):Sp m w:=by
  subst hx
  exact h.weak (A':=Ai e k A j c (xss.take j)) hi (fun _ hS=>⟨hS.1.takeN hj,hS.2⟩) hm
theorem Sp.dropR (h:Sp l w) (hi:l[i]? = some (Ai e k A n c xss)) {j:Nat} (hj:j ≤ n) (hx:xss.drop j = yss) (hm:l.set i (Ai e k (dropA A c j k) (n - j) (c - j) yss) = m):Sp m w:=by
  subst hx
  exact h.weak (A':=Ai e k (dropA A c j k) (n - j) (c - j) (xss.drop j)) hi (fun _ hS=>⟨hS.1.dropN hj,fun g hg=>hS.2 g (by rw [dropA_bk] at hg; exact hg)⟩) hm
theorem RdN.nil_ (w:World) (S:Nat → Prop) (k:Nat) {A:Option Addr} : RdN w S k A []:=⟨Rd.nil_ _ _ _ _,fun h=>absurd rfl h⟩
end
def AllA (l:List Atom):Atom where
  ok S w := ∃ R:Nat → Nat → Prop,(∀ i j b,R i b → R j b → i = j)∧(∀ i b,R i b → S b) ∧ ∀ (i:Nat) (A:Atom),l[i]? = some A → A.ok (R i) w
  mono h:=fun ⟨R,h1,h2,h3⟩=>⟨R,h1,fun i b hb=>h b (h2 i b hb),h3⟩
  st {S T w w'} ch hT:=fun ⟨R,h1,h2,h3⟩=>⟨fun i b=>R i b∧b < w.heap.size,fun i j b hi hj=>h1 i j b hi.1 hj.1,fun i b hb=>⟨h2 i b hb.1,hb.2⟩,fun i A hi=>A.st ch (fun b hb=>hT b (h2 i b hb)) (h3 i A hi)⟩
section
variable {w w' w0:World} {l l1 l2 m:List Atom} {S:Nat → Prop}
theorem Sp.startL (h:(AllA l).ok S w):Sp (l ++ [Bd w S]) w:=by
  obtain ⟨R,h1,h2,h3⟩:=h
  refine ⟨fun i b=>(i < l.length∧R i b) ∨ (i = l.length ∧ ¬ S b),?_,fun i A hi=>?_⟩
  · rintro i j b (⟨h4,h5⟩ | ⟨h4,h5⟩) (⟨h6,h7⟩ | ⟨h6,h7⟩)
    · exact h1 i j b h5 h7
    · exact absurd (h2 i b h5) h7
    · exact absurd (h2 j b h7) h5
    · rw [h4,h6]
  · rcases Nat.lt_or_ge i l.length with hlt | hge
    · rw [List.getElem?_append_left hlt] at hi
      exact A.mono (fun b hb=>.inl ⟨hlt,hb⟩) (h3 i A hi)
    · rw [List.getElem?_append_right hge] at hi
      cases hk:i - l.length with
      | zero =>
        rw [hk] at hi
        simp at hi
        subst hi
        exact ⟨fun b hb hn=>.inr ⟨by omega,hn⟩,Chg.refl _ _⟩
      | succ n=>rw [hk] at hi; simp at hi
theorem Sp.takeL (h:Sp (l1 ++ l2) w) : ∃ S,(AllA l1).ok S w∧(∀ (j:Nat) (B:Atom),l2[j]? = some B → ∃ T,B.ok T w ∧ ∀ b,T b → ¬ S b) ∧ ∀ w' m,Sp (m ++ [Bd w S]) w' → Sp (m ++ l2) w':=by
  obtain ⟨R,r1,r2⟩:=h
  refine ⟨fun b => ∃ i,i < l1.length∧R i b,⟨fun i b=>i < l1.length∧R i b,fun i j b hi hj=>r1 i j b hi.2 hj.2,fun i b hb=>⟨i,hb⟩,fun i A hi=>?_⟩,fun j B hB=>⟨R (l1.length + j),r2 _ B (by rw [List.getElem?_append_right (by omega),Nat.add_sub_cancel_left]; exact hB),fun b hb=>?_⟩,fun w' m h3=>?_⟩
  · have hlt:=(List.getElem?_eq_some_iff.1 hi).1
    exact A.mono (fun b hb=>⟨hlt,hb⟩) (r2 i A (by rw [List.getElem?_append_left hlt]; exact hi))
  · rintro ⟨i,hi,hb2⟩
    have:=r1 _ _ b hb hb2
    omega
  · have ch:=h3.chg (w0:=w) (S:=fun b => ∃ i,i < l1.length∧R i b) (i:=m.length) (by simp)
    obtain ⟨Q,q1,q2⟩:=h3
    have low : ∀ a k,a < m.length → Q a k → k < w.heap.size → ∃ i,i < l1.length∧R i k:=fun a k ha hk hlt=>by
      apply Classical.byContradiction
      intro hn
      have hf:=(q2 m.length (Bd w fun b => ∃ i,i < l1.length∧R i b) (by simp)).1 k hlt hn
      have:=q1 _ _ k hk hf
      omega
    refine ⟨fun a b=>if a < m.length then Q a b else R (l1.length + (a - m.length)) b∧b < w.heap.size,?_,?_⟩
    · intro a b k ha hb
      split at ha <;> split at hb
      · exact q1 a b k ha hb
      · rename_i p1 p2
        obtain ⟨i,hi,hr⟩:=low a k p1 ha hb.2
        have:=r1 _ _ k hb.1 hr; omega
      · rename_i p1 p2
        obtain ⟨i,hi,hr⟩:=low b k p2 hb ha.2
        have:=r1 _ _ k ha.1 hr; omega
      · have:=r1 _ _ k ha.1 hb.1; omega
    · intro a B ha
      by_cases hlt:a < m.length
      · rw [List.getElem?_append_left hlt] at ha
        exact B.mono (fun b hb=>by show ite _ _ _; rw [if_pos hlt]; exact hb) (q2 a B (by rw [List.getElem?_append_left hlt]; exact ha))
      · rw [List.getElem?_append_right (by omega)] at ha
        exact B.mono (fun b hb=>by show ite _ _ _; rw [if_neg hlt]; exact hb) (B.st ch (fun b hb hT=>by
          obtain ⟨i,hi,hr⟩:=hT
          have:=r1 _ _ b hb hr
          omega) (r2 _ B (by rw [List.getElem?_append_right (by omega),Nat.add_sub_cancel_left]; exact ha)))
theorem Sp.takeN {l:List Atom} (h:Sp l w) (n:Nat) : ∃ S,(AllA (l.take n)).ok S w∧(∀ (j:Nat) (B:Atom),(l.drop n)[j]? = some B → ∃ T,B.ok T w ∧ ∀ b,T b → ¬ S b) ∧ ∀ w' m,Sp (m ++ [Bd w S]) w' → Sp (m ++ l.drop n) w':=Sp.takeL (l1:=l.take n) (l2:=l.drop n) (by rw [List.take_append_drop]; exact h)
theorem RdN.of_blk {b T k:Nat} {cs:List Value} {xss:List (List Value)} {j:Nat} (hO : ∀ (j:Nat) (B:Atom),l2[j]? = some B → ∃ T,B.ok T w ∧ ∀ b,T b → ¬ S b) (hj:l2[j]? = some (Aa b T cs)) {o:Nat} (hr:Rd w (b + 1) k (some ⟨b,o,none⟩) xss):RdN w S k (some ⟨b,o,none⟩) xss:=by
  obtain ⟨T,h1,h2⟩:=hO j _ hj
  exact ⟨hr.more (by have:=h1.2.lt; omega),fun _ g hg=>by
    have:b = g:=by simpa [bk] using hg
    subst this
    exact h2 _ h1.1⟩
theorem Cw {B k:Nat} {A:Option Addr} {xss:List (List Value)} {j:Nat} (hO : ∀ (j:Nat) (B:Atom),l2[j]? = some B → ∃ T,B.ok T w ∧ ∀ b,T b → ¬ S b) (hj:l2[j]? = some (Bd w0 Bl)) (hr:Rd w0 B k A xss) (hB:B ≤ w0.heap.size):RdN w S k A xss:=by
  obtain ⟨T,h1,h2⟩:=hO j _ hj
  refine ⟨(hr.st0 h1.2.grow).more (Nat.le_trans hB h1.2.size),fun hn g hg=>?_⟩
  obtain ⟨ad,e,hb,_⟩:=hr.2 hn
  subst e
  simp [bk] at hg
  subst hg
  exact h2 _ (h1.1 _ (Nat.lt_of_lt_of_le hb hB) (fun h=>h))
theorem RdN.of_fixM {S0:Nat → Prop} {k:Nat} {A:Option Addr} {xss:List (List Value)} {j:Nat} (hO : ∀ (j:Nat) (B:Atom),l2[j]? = some B → ∃ T,B.ok T w ∧ ∀ b,T b → ¬ S b) (hj:l2[j]? = some (Bd w0 S0)) (hr:RdN w0 S0 k A xss):RdN w S k A xss:=by
  obtain ⟨T,h1,h2⟩:=hO j _ hj
  refine ⟨((hr.st h1.2).rd),fun hn g hg=>?_⟩
  obtain ⟨ad,e,hb,_⟩:=hr.rd.2 hn
  subst e
  have hg':=hg
  simp [bk] at hg
  subst hg
  exact h2 _ (h1.1 _ hb (hr.out hn _ hg'))
end
end Go.Eng
namespace Go.Eng
open Go Go.RowKit
def msk (n m:Nat):Array Bool:=((List.range n).map fun i=>m.testBit i).toArray
theorem msk_zero (n:Nat):msk n 0 = Array.replicate n false:=by
  apply Array.ext'
  simp only [msk,Array.toList_replicate,Nat.zero_testBit]
  induction n with
  | zero=>rfl
  | succ n ih=>rw [List.range_succ,List.map_append,ih]; simp [List.replicate_succ']
section
variable {P:Program} {N:Nat} {Q:Exit → Da → World → Prop} {ρ:Da} {w:World} {ops:List Oper} {S:World → Prop}
def RA (P:Program) (N:Nat) (ops:List Oper) (S:World → Prop) (Q:Exit → Da → World → Prop) (f:Nat) (li:Array Bool) (ρ:Da) (w:World):Prop :=
  ∀ a,EQ N a ρ → wpAnyH P .any ops.toArray (lft N Q) S f li a w
def raQ (P:Program) (N:Nat) (ops:List Oper) (S:World → Prop) (Q:Exit → Da → World → Prop) (f:Nat) (li:Array Bool):Exit → Da → World → Prop
  | .normal,ρ,w=>S w∧RA P N ops S Q f li ρ w
  | e,ρ,w=>Q e ρ w
theorem cN {id:Nat} (S:World → Prop) (hm:P.follows .mixedOrders = true) {n:Nat} (hn:ops.length = n)
    (h : ∀ w', w.grownBy w' none → RA P N ops S Q n (msk n 0) ρ w') : CW P N (.region id ops.toArray true) Q ρ w := fun a ha => by
  subst hn
  refine wp_region_held (S:=S) hm ?_
  have h1:=h { w with drawn:=w.drawn + 1 } ⟨rfl,rfl,rfl,Nat.le_refl _,fun _ _ _=>rfl⟩ a ha
  rw [msk_zero] at h1
  simpa using h1
theorem EQ.unput {a:Act} {d:Nat} {v:Value} {ρ:Da} (hd:Nat.blt d N = true) (h:EQ N (a.put (some d) v) ρ):EQ N a (upd ρ d (a.tmps.getD d undef)):=by
  have hsz:a.tmps.size = N:=by have:=h.size; simpa [Act.put] using this
  have hdN:d < N:=by simpa using hd
  have hne:Nat.beq DS d = false:=by
    cases hx:Nat.beq DS d with
    | false=>rfl
    | true=>have:=Nat.eq_of_beq_eq_true hx; have h2:=h.sm; omega
  refine ⟨?_,hsz,fun t=>?_,h.sm⟩
  · have:=h.nd
    simp only [Act.put] at this
    simp only [upd,hne,cond_false]
    exact this
  · by_cases e:t = d
    · subst e
      have:Nat.beq t DS = false:=by
        cases hx:Nat.beq t DS with
        | false=>rfl
        | true=>have:=Nat.eq_of_beq_eq_true hx; have h2:=h.sm; omega
      simp only [gt,this,cond_false,upd,Nat.beq_refl,cond_true]
    · have h1:=h.at_ t
      have hb:Nat.beq t d = false:=by
        cases hx:Nat.beq t d with
        | false=>rfl
        | true=>exact absurd (Nat.eq_of_beq_eq_true hx) e
      simp only [gt,upd,hb,cond_false] at h1 ⊢
      rw [← h1]
      simp [Act.put,Array.getElem?_setIfInBounds_ne (Ne.symm e)]
theorem msk_set {n m i:Nat} : (msk n m).setIfInBounds i true = msk n (m ||| 2 ^ i):=by
  apply Array.ext
  · simp [msk]
  · intro j h1 h2
    rw [Array.getElem_setIfInBounds]
    · simp only [msk,List.getElem_toArray,List.getElem_map,List.getElem_range,Nat.testBit_or,Nat.testBit_two_pow]
      by_cases e:i = j
      · simp [e]
      · simp [e]
    · simpa [msk] using h2
theorem RA.take {i d n m m' f : Nat} {o : Oper} {v : Value} (hi : ops[i]? = some o) (hd : o.dst = some d) (hN : Nat.blt d N = true) (hc : (Region.noSelect ops.toArray && Region.free .any ops.toArray (msk n m) i && (Region.ready .any ops.toArray (msk n m)).contains i && !m.testBit i && Nat.beq (m ||| 2 ^ i) m') = true)
    (hQ : ∀ c ρ u w, Q (.panic c) ρ w → Q (.panic c) (upd ρ d u) w) (hg : gd ops ρ o = true) (he : ∀ w, S w → Ex P ρ o w v w) (hS : S w) (h : RA P N ops S Q f (msk n m') (upd ρ d v) w) : RA P N ops S Q (f + 1) (msk n m) ρ w := fun a ha => by
  simp only [Bool.and_eq_true,Bool.not_eq_true'] at hc
  obtain ⟨⟨⟨⟨h1,h2⟩,h3⟩,h4⟩,h5⟩:=hc
  have h5:=Nat.eq_of_beq_eq_true h5
  subst h5
  refine wpAnyH_take (i:=i) (oi:=o) (v:=v) (by simpa using hi) h1 h2 h3 ?_ (.inl ⟨?_,fun w hw=>?_⟩) hS ?_
  · intro c a' w' hq
    rw [hd] at hq
    obtain ⟨ρ',e1,e2⟩:=hq
    exact ⟨_,e1.unput hN,hQ _ _ _ _ e2⟩
  · rw [ha.wanted,hg]
  · rw [ha.eval]; exact he w hw
  · rw [hd,msk_set]; exact h _ (ha.put hN v)
theorem RA.out {i d n m m' f : Nat} {o : Oper} (hi : ops[i]? = some o) (hd : o.dst = some d) (hN : Nat.blt d N = true) (hc : (Region.noSelect ops.toArray && Region.free .any ops.toArray (msk n m) i && (Region.ready .any ops.toArray (msk n m)).contains i && !m.testBit i && Nat.beq (m ||| 2 ^ i) m') = true)
    (hQ : ∀ c ρ u w, Q (.panic c) ρ w → Q (.panic c) (upd ρ d u) w) (hg : gd ops ρ o = false) (hS : S w) (h : RA P N ops S Q f (msk n m') (upd ρ d undef) w) : RA P N ops S Q (f + 1) (msk n m) ρ w := fun a ha => by
  simp only [Bool.and_eq_true,Bool.not_eq_true'] at hc
  obtain ⟨⟨⟨⟨h1,h2⟩,h3⟩,h4⟩,h5⟩:=hc
  have h5:=Nat.eq_of_beq_eq_true h5
  subst h5
  refine wpAnyH_take (i:=i) (oi:=o) (v:=undef) (by simpa using hi) h1 h2 h3 ?_ (.inr ⟨?_,rfl⟩) hS ?_
  · intro c a' w' hq
    rw [hd] at hq
    obtain ⟨ρ',e1,e2⟩:=hq
    exact ⟨_,e1.unput hN,hQ _ _ _ _ e2⟩
  · rw [ha.wanted,hg]
  · rw [hd,msk_set]; exact h _ (ha.put hN undef)
theorem RA.br {i d n m m' f : Nat} {o : Oper} {p : Prop} [Decidable p] (hi : ops[i]? = some o) (hd : o.dst = some d) (hN : Nat.blt d N = true) (hc : (Region.noSelect ops.toArray && Region.free .any ops.toArray (msk n m) i && (Region.ready .any ops.toArray (msk n m)).contains i && !m.testBit i && Nat.beq (m ||| 2 ^ i) m') = true)
    (hQ : ∀ c ρ u w,Q (.panic c) ρ w → Q (.panic c) (upd ρ d u) w) (hg:gd ops ρ o = true) (he : ∀ r,decide p = r → ∀ w,S w → Ex P ρ o w (.bool r) w) (hS:S w)
    (ht : p → RA P N ops S Q f (msk n m') (upd ρ d (.bool true)) w) (hf : ¬ p → RA P N ops S Q f (msk n m') (upd ρ d (.bool false)) w) : RA P N ops S Q (f + 1) (msk n m) ρ w := by
  by_cases h:p
  · exact RA.take hi hd hN hc hQ hg (he true (decide_eq_true h)) hS (ht h)
  · exact RA.take hi hd hN hc hQ hg (he false (decide_eq_false h)) hS (hf h)
theorem zr (i m' : Nat) {d n f m : Nat} {o : Oper} {v : Value} (h : (ops[i]?, o.dst, Nat.blt d N, gd ops ρ o) = (some o, some d, true, true)) (hc : (Region.noSelect ops.toArray && Region.free .any ops.toArray (msk n m) i && (Region.ready .any ops.toArray (msk n m)).contains i && !m.testBit i && Nat.beq (m ||| 2 ^ i) m') = true)
    (hS : S w) (he : ∀ w, S w → Ex P ρ o w v w) (k : RA P N ops S Q f (msk n m') (upd ρ d v) w) (hQ : ∀ c ρ u w, Q (.panic c) ρ w → Q (.panic c) (upd ρ d u) w := by exact fun _ _ _ _ h => h) : RA P N ops S Q (f + 1) (msk n m) ρ w :=
  RA.take (congrArg (·.1) h) (congrArg (·.2.1) h) (congrArg (·.2.2.1) h) hc hQ (congrArg (·.2.2.2) h) he hS k
theorem zq (i m' : Nat) {d n f m : Nat} {o : Oper} (h : (ops[i]?, o.dst, Nat.blt d N, gd ops ρ o) = (some o, some d, true, false)) (hc : (Region.noSelect ops.toArray && Region.free .any ops.toArray (msk n m) i && (Region.ready .any ops.toArray (msk n m)).contains i && !m.testBit i && Nat.beq (m ||| 2 ^ i) m') = true)
    (hS : S w) (k : RA P N ops S Q f (msk n m') (upd ρ d undef) w) (hQ : ∀ c ρ u w, Q (.panic c) ρ w → Q (.panic c) (upd ρ d u) w := by exact fun _ _ _ _ h => h) : RA P N ops S Q (f + 1) (msk n m) ρ w :=
  RA.out (congrArg (·.1) h) (congrArg (·.2.1) h) (congrArg (·.2.2.1) h) hc hQ (congrArg (·.2.2.2) h) hS k
theorem zb (i m' : Nat) (p : Prop) [Decidable p] {d n f m : Nat} {o : Oper} (h : (ops[i]?, o.dst, Nat.blt d N, gd ops ρ o) = (some o, some d, true, true)) (hc : (Region.noSelect ops.toArray && Region.free .any ops.toArray (msk n m) i && (Region.ready .any ops.toArray (msk n m)).contains i && !m.testBit i && Nat.beq (m ||| 2 ^ i) m') = true)
    (hS : S w) (he : ∀ r, decide p = r → ∀ w, S w → Ex P ρ o w (.bool r) w) (ht : p → RA P N ops S Q f (msk n m') (upd ρ d bT) w) (hf : ¬ p → RA P N ops S Q f (msk n m') (upd ρ d bF) w) (hQ : ∀ c ρ u w, Q (.panic c) ρ w → Q (.panic c) (upd ρ d u) w := by exact fun _ _ _ _ h => h) : RA P N ops S Q (f + 1) (msk n m) ρ w :=
  RA.br (congrArg (·.1) h) (congrArg (·.2.1) h) (congrArg (·.2.2.1) h) hc hQ (congrArg (·.2.2.2) h) he hS ht hf
def RAstep (P:Program) (N:Nat) (ops:List Oper) (S:World → Prop) (Q:Exit → Da → World → Prop) (n f m i:Nat) (ρ:Da) (w:World):Prop :=
  ∃ o m', ops[i]? = some o ∧ (!m.testBit i && Nat.beq (m ||| 2 ^ i) m') = true ∧ RL P N ops (raQ P N ops S Q f (msk n m')) [o] ρ w
theorem RAstep.run {n f m i:Nat} (h:RAstep P N ops S Q n f m i ρ w) {a:Act} (ha:EQ N a ρ) :
    wpOp P ops.toArray (lft N Q) i (fun a' w' => S w' ∧ wpAnyH P .any ops.toArray (lft N Q) S f ((msk n m).setIfInBounds i true) a' w') a w := by
  obtain ⟨o,m',hi,hm,hr⟩:=h
  rw [Bool.and_eq_true,Bool.not_eq_true'] at hm
  have h5:=Nat.eq_of_beq_eq_true hm.2
  subst h5
  rw [msk_set]
  have h1:=hr a ha
  have h0:ops.toArray[i]? = some o:=by simpa using hi
  unfold wpList at h1
  unfold Go.wpOp
  simp only [h0]
  have key : ∀ a' w',wpList P ops.toArray (lft N (raQ P N ops S Q f (msk n (m ||| 2 ^ i)))) [] a' w' → S w'∧wpAnyH P .any ops.toArray (lft N Q) S f (msk n (m ||| 2 ^ i)) a' w':=by
    intro a' w' h2
    obtain ⟨ρ',e1,e2⟩:=h2
    exact ⟨e2.1,e2.2 a' e1⟩
  split at h1
  · rename_i hw
    rw [if_pos hw]
    refine h1.imp (fun h2=>?_) id
    unfold Oper.wp at h2 ⊢
    generalize (execOp a.eval o).run P w = r at *
    cases r with
    | ok x w' =>
      cases x <;> simp only [Oper.upon] at h2 ⊢ <;>
        first
          | exact key _ _ h2
          | exact Calls.mono h2 (fun e w'' he=>by cases e <;> first | exact key _ _ he | exact he)
          | exact Rows.mono h2 (fun _ _ he=>key _ _ he)
    | halt x w'=>cases x <;> simp only [Oper.upon] at h2 ⊢ <;> exact h2
  · rename_i hw
    rw [if_neg hw]
    exact key _ _ h1
theorem cO {i n f m:Nat} (hr:((Region.ready .any ops.toArray (msk n m)) == [i]) = true) (h:RAstep P N ops S Q n f m i ρ w):RA P N ops S Q (f + 1) (msk n m) ρ w:=fun a ha =>
  wpAnyH_all (rs:=[i]) (by simpa using hr) (by simp) (fun j hj=>by
    simp only [List.mem_singleton] at hj
    subst hj; exact h.run ha)
theorem cP {i j n f m:Nat} (hr:((Region.ready .any ops.toArray (msk n m)) == [i,j]) = true) (h:RAstep P N ops S Q n f m i ρ w) (h2:RAstep P N ops S Q n f m j ρ w):RA P N ops S Q (f + 1) (msk n m) ρ w:=fun a ha =>
  wpAnyH_all (rs:=[i,j]) (by simpa using hr) (by simp) (fun k hk=>by
    simp only [List.mem_cons,List.not_mem_nil,or_false] at hk
    rcases hk with rfl | rfl
    · exact h.run ha
    · exact h2.run ha)
theorem cQ {n m f:Nat} (hr:((Region.ready .any ops.toArray (msk n m)).isEmpty) = true) (h:Q .normal ρ w):RA P N ops S Q f (msk n m) ρ w:=fun a ha =>
  wpAnyH_done (by simpa using hr) ⟨ρ,ha,h⟩ f
theorem CW.mid {x : Code} (m : Nat → Bool) (A : Da → World → Prop) (hx : CW P N x (thn (fun ρ' w' => Out m ρ' ρ ∧ A ρ' w') Q) ρ w) (hy : ∀ ρ' w', Out m ρ' ρ → A ρ' w' → Q .normal ρ' w') : CW P N x Q ρ w :=
  CW.mono hx fun e ρ' w' h=>by
    cases e with
    | normal=>exact hy ρ' w' h.1 h.2
    | _=>exact h
end
end Go.Eng
namespace Go.Eng
open Go Go.RowKit
def putObj (o:Obj):List UInt8:=Ci [o.handle,o.blk.at_,o.words.length,o.links.length] ++ encW o.words ++ Ci o.links
def putObjs (l:List Obj):List UInt8:=(l.map putObj).flatten
def Bn (h:Heap):List UInt8:=Ci [h.order,h.next] ++ Ci h.tops ++ Ci [(h.objs.length:Int)] ++ putObjs h.objs
def putRow (r:Row):List UInt8:=Ci [r.client,r.seq,r.code] ++ encW [r.value]
def putRows (l:List Row):List UInt8:=(l.map putRow).flatten
def putStateL (s:State):List UInt8:=Cr (Bn s.heap).length ++ Bn s.heap ++ Ci [(s.rows.length:Int)] ++ putRows s.rows
theorem putObjs_snoc (l:List Obj) (o:Obj):putObjs (l ++ [o]) = putObjs l ++ putObj o:=by simp [putObjs]
theorem putRows_snoc (l:List Row) (o:Row):putRows (l ++ [o]) = putRows l ++ putRow o:=by simp [putRows]
theorem found_mem {hs:List Int} {t:Int} (h:foundB hs t = true):t ∈ hs:=by
  unfold foundB at h
  simp only [Bool.and_eq_true,decide_eq_true_eq] at h
  obtain ⟨h1,h2⟩:=h
  rw [← h2,List.getD_eq_getElem?_getD,List.getElem?_eq_getElem h1]
  exact List.getElem_mem h1
theorem lead_rng {hs:List Int} {t hi:Int} (hh : ∀ x ∈ hs,0 ≤ x∧x ≤ hi) (h0:0 ≤ hi) (h:leadB hs t = true):0 ≤ t∧t ≤ hi:=by
  unfold leadB at h
  simp only [Bool.or_eq_true,decide_eq_true_eq] at h
  rcases h with rfl | h
  · omega
  · exact hh t (found_mem h)
theorem asc_rng {next:Int} : ∀ {l:List Int} {last:Int},ascB next last l = true → ∀ x ∈ l,last < x∧x < next
  | [],_,_,x,hx=>by cases hx
  | y :: l,last,h,x,hx=>by
    unfold ascB at h
    simp only [Bool.and_eq_true,decide_eq_true_eq] at h
    rcases List.mem_cons.1 hx with rfl | hx
    · exact h.1
    · have:=asc_rng h.2 x hx; omega
theorem heapB_rng {h:Heap} (hb:Dc h = true):(3 ≤ h.order∧h.order ≤ 8)∧(1 ≤ h.next∧h.next ≤ 1000001)∧h.objs.length ≤ 256∧(∀ t ∈ h.tops,0 ≤ t∧t ≤ 2147483647) ∧
    ∀ o ∈ h.objs,(0 ≤ o.handle∧o.handle ≤ 2147483647)∧(0 ≤ o.blk.at_∧o.blk.at_ ≤ 256)∧o.words.length ≤ 32∧o.links.length ≤ 16 ∧ ∀ x ∈ o.links,0 ≤ x∧x ≤ 2147483647:=by
  unfold Dc at hb
  simp only [Bool.and_eq_true,decide_eq_true_eq,Bool.not_eq_true'] at hb
  obtain ⟨⟨⟨⟨⟨⟨⟨h1,h2⟩,h3⟩,h4⟩,h5⟩,h6⟩,h7⟩,h8⟩:=hb
  have b1:=buddyB_len h1
  have b2:=Bh h2
  have hh : ∀ x ∈ h.handles,0 ≤ x∧x ≤ 2147483647:=fun x hx=>by have:=asc_rng h4 x hx; omega
  have hl : ∀ t,h.lost t = false → 0 ≤ t∧t ≤ 2147483647:=fun t ht=>lead_rng hh (by omega) (by simpa [Heap.lost] using ht)
  refine ⟨⟨b1.2.1,b1.2.2.1⟩,b2,h3,fun t ht=>hl t (by have:=List.any_eq_false.1 h8 t ht; simpa using this),fun o ho=>?_⟩
  have ho2:=List.all_eq_true.1 h5 o ho
  unfold objB at ho2
  simp only [Bool.and_eq_true,decide_eq_true_eq] at ho2
  obtain ⟨⟨⟨o1,o2⟩,o3⟩,_⟩:=ho2
  have w2:=Bh o2
  have w3:=Bh o3
  have hr:=needI_rng (a:=(o.words.length:Int)) (b:=(o.links.length:Int)) (by omega)
  have hw:=Bc h.order
  refine ⟨hh _ (List.mem_map.2 ⟨o,ho,rfl⟩),by omega,by omega,by omega,fun x hx=>hl x ?_⟩
  have:=List.any_eq_false.1 h7 x (List.mem_flatten.2 ⟨o.links,List.mem_map.2 ⟨o,ho,rfl⟩,hx⟩)
  simpa using this
end Go.Eng
namespace Go.Eng
open Go Go.RowKit
structure Rec where
  (kind view from_ number:Int)
  image:List UInt8
  entry:Entry
  ents:List Entry
  deriving DecidableEq
def kC (k:Kept) (A:Option Addr) (n c:Nat):List Value:=[.int .i64 k.view,.int .i64 k.normal,.int .i64 k.base,.string (tx k.image),.slice A n c]
def rC (r:Rec) (A:Option Addr) (n c:Nat):List Value:=[.int .i64 r.kind,.int .i64 r.view,.int .i64 r.from_,.int .i64 r.number,.string (tx r.image),.int .i64 r.entry.num,.int .i64 r.entry.view,.int .i64 r.entry.client,.int .i64 r.entry.seq,.int .i64 r.entry.op.kind,.int .i64 r.entry.op.h,.int .i64 r.entry.op.i,.int .i64 r.entry.op.n,.int .i64 r.entry.op.k,.int .i64 r.entry.op.v,.int .i64 r.entry.op.t,.slice A n c]
theorem KeptR.of {w:World} {B n c:Nat} {A:Option Addr} {k:Kept} (h:Rd w B 11 A (ents k.ents)) (hn:n = k.ents.length) (hm:n ≤ 1099511627776) (hc:n ≤ c) (hi:k.image.length ≤ 140737488351232):KeptR w B ⟨k.view,k.normal,k.base,tx k.image,⟨A,n,c⟩⟩ k :=
  ⟨rfl,rfl,rfl,rfl,hi,hn,hm,hc,h⟩
def zKept:Kept:=⟨0,0,0,[],[]⟩
def As (k:Kept) (r:Rec):Int × Kept :=
  if (r.kind = 1 ∨ r.kind = 3 ∨ r.kind = 5)∧r.view < k.view then (141,zKept)
  else if r.kind = 1 then (0, { k with view:=r.view })
  else if r.kind = 2 then (if follB [r.entry] (Dm k) then (0, { k with ents:=k.ents ++ [r.entry] }) else (140,zKept))
  else if r.kind = 3 then (if Az r.from_ k.base (Dm k) = true∧follB r.ents r.from_ = true then (0, { k with view:=r.view,normal:=r.view,ents:=k.ents.take (r.from_ - k.base).toNat ++ r.ents }) else (140,zKept))
  else if r.kind = 4 then (if r.number ≤ k.base ∨ Dm k < r.number then (140,zKept) else (0, { k with ents:=k.ents.drop (r.number - k.base).toNat,base:=r.number,image:=r.image }))
  else if r.kind = 5 then (if Az r.number 0 900000000 = true∧follB r.ents r.number = true then (0,⟨r.view,r.view,r.number,r.image,r.ents⟩) else (140,zKept))
  else (141,zKept)
def Cb (x:Int × Kept):Int × Kept :=
  if x.1 = 0 then (if 4000 < x.2.ents.length then (2,zKept) else if Cn x.2 then x else (141,zKept)) else (x.1,zKept)
theorem seenK_err {x:Int × Kept} (h:(Cb x).1 ≠ 0):Cb x = ((Cb x).1,zKept):=by
  unfold Cb at *
  split
  · rename_i h0
    rw [if_pos h0] at h
    split
    · rfl
    · rename_i h1
      rw [if_neg h1] at h
      split
      · rename_i h2; rw [if_pos h2] at h; exact absurd h0 h
      · rfl
  · rfl
def Ay (k:Kept) (r:Rec):Int × Kept:=if Cn k then Cb (As k r) else (1,zKept)
def putHeapX (h:Heap):List UInt8 × Int:=if Dc h then (Bn h,0) else ([],60)
def Ds (s:State):List UInt8 × Int:=if Cy s then (putStateL s,0) else ([],60)
def newK (o:Int):Int × Kept:=if Az o 3 8 then (0, { view:=0,normal:=0,base:=0,image:=putStateL ⟨newHeap o,[]⟩,ents:=[] }) else (1,zKept)
end Go.Eng
namespace Go.Eng
open Go Go.RowKit
def wn (b:Blk):Nat:=(Af b.ord).toNat
theorem contigGo_sum : ∀ {l:List Blk} {e x:Int},0 ≤ e → Bx e l = some x → x = e + ((l.map wn).sum:Nat)
  | [],e,x,_,h=>by simp [Bx] at h; simp [h]
  | b :: l,e,x,h0,h=>by
    unfold Bx at h
    split at h
    · have hb:=Bc b.ord
      have:=contigGo_sum (by omega) h
      rw [this]
      simp only [List.map_cons,List.sum_cons,wn]
      omega
    · cases h
theorem needN_le {n:Nat} (h:n ≤ 48):(n:Int) + 1 ≤ Af (needN n:Int):=by
  have e:Af 0 = 1∧Af 1 = 2∧Af 2 = 4∧Af 3 = 8∧Af 4 = 16∧Af 5 = 32∧Af 6 = 64:=by decide
  obtain ⟨e0,e1,e2,e3,e4,e5,e6⟩:=e
  unfold needN
  split
  · show _ ≤ Af 0; omega
  · split
    · show _ ≤ Af 1; omega
    · split
      · show _ ≤ Af 2; omega
      · split
        · show _ ≤ Af 3; omega
        · split
          · show _ ≤ Af 4; omega
          · split
            · show _ ≤ Af 5; omega
            · show _ ≤ Af 6; omega
theorem objB_words {order:Int} {o:Obj} (h:objB order o = true):o.words.length + o.links.length + 1 ≤ wn o.blk:=by
  unfold objB at h
  simp only [Bool.and_eq_true,decide_eq_true_eq] at h
  obtain ⟨⟨⟨h1,h2⟩,_⟩,_⟩:=h
  have h2:=Bh h2
  have hr:=needI_rng (a:=(o.words.length:Int)) (b:=(o.links.length:Int)) (by omega)
  have hn:=needN_le (n:=o.words.length + o.links.length) (by omega)
  have e:By o.words.length o.links.length = (needN (o.words.length + o.links.length):Int):=by
    unfold By
    rw [if_pos (by omega)]
    congr 1
  rw [e] at h1
  unfold wn
  rw [← h1]
  omega
theorem putObjs_len {order:Int} : ∀ {l:List Obj},l.all (objB order) = true → (putObjs l).length ≤ 16 * ((l.map Obj.blk).map wn).sum
  | [],_=>by simp [putObjs]
  | o :: l,h=>by
    simp only [List.all_cons,Bool.and_eq_true] at h
    have h1:=objB_words h.1
    have h2:=putObjs_len h.2
    have e:putObjs (o :: l) = putObj o ++ putObjs l:=by simp [putObjs]
    rw [e]
    simp only [putObj,List.length_append,Bj,Bk,List.length_cons,List.length_nil,List.map_cons,List.sum_cons]
    omega
theorem putHeapL_len {h:Heap} (hb:Dc h = true):(Bn h).length ≤ 4124:=by
  unfold Dc at hb
  simp only [Bool.and_eq_true,decide_eq_true_eq,Bool.not_eq_true'] at hb
  obtain ⟨⟨⟨⟨⟨⟨⟨h1,h2⟩,h3⟩,h4⟩,h5⟩,h6⟩,h7⟩,h8⟩:=hb
  have hs:=contigGo_sum (Int.le_refl 0) h6
  have hp:((isort h.blocks).map wn).sum = (h.blocks.map wn).sum:=((isort_perm h.blocks).map wn).sum_nat
  have hw:=Bc h.order
  have ho:=putObjs_len h5
  have hsum:(h.blocks.map wn).sum = (h.free.map wn).sum + ((h.objs.map Obj.blk).map wn).sum:=by unfold Heap.blocks; rw [List.map_append,List.sum_append]
  unfold Bn Heap.tops
  simp only [List.length_append,Bj,List.length_cons,List.length_nil]
  omega
theorem rowsB_rng : ∀ {l:List Row} {last:Int},0 ≤ last → rowsB last l = true → ∀ r ∈ l,(0 ≤ r.client∧r.client ≤ 2147483647)∧(0 ≤ r.seq∧r.seq ≤ 2147483647)∧(0 ≤ r.code∧r.code ≤ 2147483647)
  | [],_,_,_,r,hr=>by cases hr
  | x :: l,last,h0,h,r,hr=>by
    unfold rowsB at h
    simp only [Bool.and_eq_true,decide_eq_true_eq] at h
    rcases List.mem_cons.1 hr with rfl | hr
    · omega
    · exact rowsB_rng (by omega) h.2 r hr
theorem rowsB_len : ∀ {l:List Row} {last:Int},last ≤ 4 → rowsB last l = true → (l.length:Int) ≤ 4 - last
  | [],last,h0,_=>by simp; omega
  | x :: l,last,h0,h=>by
    unfold rowsB at h
    simp only [Bool.and_eq_true,decide_eq_true_eq] at h
    have:=rowsB_len (by omega) h.2
    simp only [List.length_cons]
    omega
end Go.Eng
namespace Go.Eng
theorem stateB_t {s:State} (h:Cy s = true):Dc s.heap = true∧rowsB 0 s.rows = true:=by simpa [Cy] using h
end Go.Eng
namespace Go.Eng
theorem newState_ok {o:Int} (h:Az o 3 8 = true):Cy ⟨newHeap o,[]⟩ = true:=by unfold Cy; rw [newHeap_ok h]; rfl
def newBytes (o:Int):List UInt8:=(Ds ⟨newHeap o,[]⟩).1
theorem newBytes_len (o:Int):(newBytes o).length ≤ 4136:=by
  unfold newBytes Ds
  split
  · rename_i h
    have:=putHeapL_len (stateB_t h).1
    simp only [] at this
    simp [putStateL,Bj,putRows,Cr]
    omega
  · simp
end Go.Eng
namespace Go.Eng
open Go Go.RowKit
def SnapA (X:World → Nat → Prop):Atom where
  ok S w := ∃ w1 base,X w1 base∧w1.heap.size ≤ w.heap.size ∧ ∀ b,base ≤ b → b < w1.heap.size → S b∧w.heap[b]? = w1.heap[b]?
  mono h:=fun ⟨w1,base,h1,h2,h3⟩=>⟨w1,base,h1,h2,fun b hb hl=>⟨h b (h3 b hb hl).1,(h3 b hb hl).2⟩⟩
  st {S T w w'} ch hT:=fun ⟨w1,base,h1,h2,h3⟩=>⟨w1,base,h1,Nat.le_trans h2 ch.size,fun b hb hl =>
    ⟨⟨(h3 b hb hl).1,Nat.lt_of_lt_of_le hl h2⟩,(ch.block b (Nat.lt_of_lt_of_le hl h2) (hT b (h3 b hb hl).1)).trans (h3 b hb hl).2⟩⟩
theorem Sp.newX {w w':World} {l:List Atom} {X:World → Nat → Prop} (h:Sp l w) (g:w.grownBy w' none) {base:Nat} (hx:X w' base) (hb:w.heap.size ≤ base):Sp (SnapA X :: l) w' :=
  h.new1 (S:=fun b=>base ≤ b) g ⟨w',base,hx,Nat.le_refl _,fun b hb _=>⟨hb,rfl⟩⟩ (fun k hk=>Nat.le_trans hb hk)
structure Kp (w1:World) (base:Nat) (w:World):Prop where
  size:w1.heap.size ≤ w.heap.size
  same : ∀ b,base ≤ b → b < w1.heap.size → w.heap[b]? = w1.heap[b]?
theorem Sp.snap {w:World} {l:List Atom} {X:World → Nat → Prop} (h:Sp l w) {i:Nat} (hi:l[i]? = some (SnapA X)) : ∃ w1 base,X w1 base∧Kp w1 base w:=by
  obtain ⟨S,w1,base,h1,h2,h3⟩:=h.get hi
  exact ⟨w1,base,h1,h2,fun b hb hl=>(h3 b hb hl).2⟩
section
variable {w1 w:World} {base e k c n:Nat} {A:Option Addr} {xss:List (List Value)}
theorem Ow.kp (h:Ow w1 base e k A c xss) (q:Kp w1 base w):Ow w base e k A c xss:=by
  refine ⟨⟨h.own.1,?_⟩,h.all⟩
  rcases h.own.2 with h1 | ⟨g,cap,cur,e1,e2,e3,rest⟩
  · exact .inl h1
  · exact .inr ⟨g,cap,cur,e1,e2,(q.same g e2 (Array.getElem?_eq_some_iff.1 e3).1).trans e3,rest⟩
theorem Wr.kp (h:Wr w1 base e k A n c xss) (q:Kp w1 base w):Wr w base e k A n c xss:=by
  refine ⟨h.len,h.all,?_⟩
  rcases h.row with h1 | ⟨g,off,cs,rfl,hb,ho,rest⟩
  · exact .inl h1
  · exact .inr ⟨g,off,cs,rfl,hb,(q.same g hb ho.lt).trans ho,rest⟩
theorem ObjsO.kp {ros:List RObj} {os:List Obj} (h:ObjsO w1 base ros os) (q:Kp w1 base w):ObjsO w base ros os :=
  ⟨h.len,fun i ro o h1 h2=>by
    have:=h.all i ro o h1 h2
    exact ⟨this.h,this.b,this.wl,this.ll,this.ow.kp q,this.ol.kp q⟩⟩
theorem HeapO.kp {rh:RHeap} {ros:List RObj} {h:Heap} (H:HeapO w1 base rh ros h) (q:Kp w1 base w):HeapO w base rh ros h :=
  ⟨H.order,H.next,H.tops,H.on,H.om,H.orow.kp q,H.objs.kp q,H.osm,H.fn,H.fm,H.frow.kp q⟩
theorem StateO.kp {rs:RState} {ros:List RObj} {s:State} (h:StateO w1 base rs ros s) (q:Kp w1 base w):StateO w base rs ros s:=⟨h.heap.kp q,h.rn,h.rm,h.rr.kp q⟩
end
def StA (rs:RState) (ros:List RObj) (s:State):Atom:=SnapA fun w b=>StateO w b rs ros s
section
variable {w w':World} {l:List Atom}
theorem Sp.newS {rs:RState} {ros:List RObj} {s:State} (h:Sp l w) (g:w.grownBy w' none) {base:Nat} (hx:StateO w' base rs ros s) (hb:w.heap.size ≤ base):Sp (StA rs ros s :: l) w':=h.newX (X:=fun w b=>StateO w b rs ros s) g hx hb
theorem Sp.stR {rs:RState} {ros:List RObj} {s:State} (h:Sp l w) {i:Nat} (hi:l[i]? = some (StA rs ros s)):StateR w w.heap.size rs ros s:=by
  obtain ⟨w1,base,h1,h2⟩:=h.snap hi
  exact (StateO.kp h1 h2).r
end
end Go.Eng
namespace Go.Eng
open Go Go.RowKit
section
variable {w w0:World} {l m:List Atom} {e k n c i j:Nat} {A:Option Addr} {xss:List (List Value)}
end
end Go.Eng
namespace Go.Eng
open Go Go.RowKit
theorem seenK_ok {x:Int × Kept} (h:(Cb x).1 = 0):Cb x = x∧x.1 = 0∧Cn x.2 = true:=by
  unfold Cb at *
  split at h
  · rename_i h0
    rw [if_pos h0]
    split at h
    · simp at h
    · rename_i h1
      rw [if_neg h1]
      split at h
      · rename_i h2; rw [if_pos h2]; exact ⟨rfl,h0,h2⟩
      · simp at h
  · rename_i h0; exact absurd h h0
theorem foldK_ok {k:Kept} {r:Rec} (h:(Ay k r).1 = 0):Cn k = true∧Ay k r = As k r∧(As k r).1 = 0∧Cn (Ay k r).2 = true:=by
  unfold Ay at *
  split at h
  · rename_i hk
    rw [if_pos hk]
    have:=seenK_ok h
    exact ⟨hk,this.1,this.2.1,by rw [this.1]; exact this.2.2⟩
  · simp at h
theorem foldK_bad {k:Kept} {r:Rec} (h:(Ay k r).1 ≠ 0):(Ay k r).2 = zKept:=by
  unfold Ay at *
  split at h
  · rename_i hk
    rw [if_pos hk]
    have:=seenK_err h
    rw [this]
  · rename_i hk; rw [if_neg hk]
theorem madeK_ok {k:Kept} {r:Rec} (h:(As k r).1 = 0) :
    ((r.kind = 1 ∨ r.kind = 3 ∨ r.kind = 5) → k.view ≤ r.view) ∧
    ((r.kind = 1∧(As k r).2 = { k with view:=r.view }) ∨
     (r.kind = 2∧follB [r.entry] (Dm k) = true∧(As k r).2 = { k with ents:=k.ents ++ [r.entry] }) ∨
     (r.kind = 3∧(k.base ≤ r.from_∧r.from_ ≤ Dm k)∧follB r.ents r.from_ = true∧(As k r).2 = { k with view:=r.view,normal:=r.view,ents:=k.ents.take (r.from_ - k.base).toNat ++ r.ents }) ∨
     (r.kind = 4∧(k.base < r.number∧r.number ≤ Dm k)∧(As k r).2 = { k with ents:=k.ents.drop (r.number - k.base).toNat,base:=r.number,image:=r.image }) ∨
     (r.kind = 5∧(0 ≤ r.number∧r.number ≤ 900000000)∧follB r.ents r.number = true∧(As k r).2 = ⟨r.view,r.view,r.number,r.image,r.ents⟩)):=by
  unfold As at *
  by_cases h0:(r.kind = 1 ∨ r.kind = 3 ∨ r.kind = 5)∧r.view < k.view
  · rw [if_pos h0] at h; simp at h
  · rw [if_neg h0] at h ⊢
    refine ⟨fun hk=>by
      rcases Int.lt_or_le r.view k.view with h1 | h1
      · exact absurd ⟨hk,h1⟩ h0
      · exact h1,?_⟩
    by_cases h1:r.kind = 1
    · rw [if_pos h1]; exact .inl ⟨h1,rfl⟩
    · rw [if_neg h1] at h ⊢
      by_cases h2:r.kind = 2
      · rw [if_pos h2] at h ⊢
        split at h
        · rename_i h3; rw [if_pos h3]; exact .inr (.inl ⟨h2,h3,rfl⟩)
        · simp at h
      · rw [if_neg h2] at h ⊢
        by_cases h3:r.kind = 3
        · rw [if_pos h3] at h ⊢
          split at h
          · rename_i h4; rw [if_pos h4]; exact .inr (.inr (.inl ⟨h3,Bh h4.1,h4.2,rfl⟩))
          · simp at h
        · rw [if_neg h3] at h ⊢
          by_cases h4:r.kind = 4
          · rw [if_pos h4] at h ⊢
            split at h
            · simp at h
            · rename_i h5; rw [if_neg h5]; exact .inr (.inr (.inr (.inl ⟨h4,by omega,rfl⟩)))
          · rw [if_neg h4] at h ⊢
            by_cases h5:r.kind = 5
            · rw [if_pos h5] at h ⊢
              split at h
              · rename_i h6; rw [if_pos h6]; exact .inr (.inr (.inr (.inr ⟨h5,Bh h6.1,h6.2,rfl⟩)))
              · simp at h
            · rw [if_neg h5] at h; simp at h
def bigK (k:Kept) (r:Rec):Bool:=decide (300 < k.ents.length) || decide (300 < r.ents.length) || decide (100000 < k.image.length) || decide (100000 < r.image.length)
theorem bigK_f {k:Kept} {r:Rec} (h:bigK k r = false):k.ents.length ≤ 300∧r.ents.length ≤ 300∧k.image.length ≤ 100000∧r.image.length ≤ 100000:=by
  simp [bigK] at h; omega
theorem Dg (k:Kept) (r:Rec):(Ay k r).2.ents.length ≤ 4000:=by
  by_cases h:(Ay k r).1 = 0
  · exact (keptB_t (foldK_ok h).2.2.2).2.2.2.2.2.2.1
  · rw [foldK_bad h]; simp [zKept]
theorem Dk (k:Kept) (r:Rec):(Ay k r).2.image.length ≤ k.image.length + r.image.length:=by
  by_cases h:(Ay k r).1 = 0
  · obtain ⟨hk,hf,hm,hx⟩:=foldK_ok h
    have hc:=(madeK_ok hm).2
    rw [← hf] at hc
    rcases hc with ⟨h1,h2⟩ | ⟨h1,h3,h2⟩ | ⟨h1,h3,h4,h2⟩ | ⟨h1,h3,h2⟩ | ⟨h1,h3,h4,h2⟩ <;> rw [h2] <;> simp only [] <;> omega
  · rw [foldK_bad h]; simp [zKept]
def entR (n:Int):Entry:=⟨n,0,0,0,zOp⟩
def Bu (n:Int):Rec:=⟨2,0,0,0,[],entR n,[]⟩
def fk0:Kept:=⟨0,0,0,newBytes 3,[]⟩
theorem newK3:newK 3 = (0,fk0):=by decide +kernel
def fk1:Kept:=(Ay fk0 (Bu 1)).2
def fk2:Kept:=(Ay fk1 (Bu 2)).2
end Go.Eng
namespace Go.Eng
end Go.Eng
namespace Go.Eng
open Go Go.RowKit
section
variable {P:Program} {N:Nat} {Q:Exit → Da → World → Prop} {ρ:Da} {w:World} {ops rest:List Oper} {d:Option Tmp} {ty:TypeId} {ps:String} {af:Array Edge} {gu:Option (Nat × Bool)}
variable {x y:Operand} {t t':TypeId}
theorem tx_toList (l:List UInt8):(tx l).toList = l:=by
  rw [ByteArray.toList_eq]; rfl
theorem Ex.eqTx {l m:List UInt8} {r:Bool} (hx:ev ρ x = .string (tx l)) (hy:ev ρ y = .string (tx m)) (hr:decide (l = m) = r):Ex P ρ ⟨d,.binOp .eql t x y t',ty,ps,af,gu⟩ w (.bool r) w:=by
  subst hr
  unfold Ex; refine Cc ?_
  have e:((tx l).toList == (tx m).toList) = decide (l = m):=by rw [tx_toList,tx_toList]; by_cases h:l = m <;> simp [h]
  simp [hx,hy,eqGuard,binOp_string_eql,e]
end
theorem Ob.rdL {w:World} {b T k:Nat} {cs:List Value} {xss:List (List Value)} (h:Ob w b T cs) (hf:cs = xss.flatten) (hk : ∀ x ∈ xss,x.length = k):Rd w (b + 1) k (some ⟨b,0,none⟩) xss :=
  ⟨hk,fun _=>⟨_,rfl,Nat.lt_succ_self b,fun i x hx j u hu=>by
    rw [add_lit,add_lit,Nat.zero_add]
    exact h.cell (by rw [hf]; exact flat_get hk hx hu)⟩⟩
theorem ents_k (l:List Entry) : ∀ x ∈ ents l,x.length = 11:=by intro x hx; obtain ⟨e,_,rfl⟩:=List.mem_map.1 hx; rfl
end Go.Eng
namespace Go.Eng
open Go Go.RowKit Go.ChangeShapes Go.WideShapes
section
variable {H:Type} {enc:TypeId × Value → H} {P:Program} {w w':World}
theorem below_grown {W W':World} (g:W.grownBy W' none):Below W.heap.size W W':=⟨g.os,g.tape,g.output,g.size,fun k hk=>g.block k hk (by simp)⟩
theorem trodAll_stays (hl : laidOutB P = true) (hb : Below w.heap.size w w') {sp : Nat → Bool} : ∀ {ts : List TypeId} {vs : List Value} {ds : List (DataW H)} {ps : List MemPlace},
    (ts.all fun t=>P.readableRec t && decide (t < P.types.size)) = true → DataW.TrodAll enc P w 0 (fun _=>true) true ts vs ds ps → (∀ p ∈ ps,p.block < w.heap.size) → (∀ p ∈ ps,sp p.block = true) → DataW.TrodAll enc P w' 0 sp true ts vs ds ps
  | [],[],[],_,_,h,_,_=>h
  | t :: ts,v :: vs,d :: ds,ps,ht,⟨p,q,h1,h2,e⟩,hlt,hs=>by
    subst e
    simp only [List.all_cons,Bool.and_eq_true,decide_eq_true_eq] at ht
    refine ⟨p,q,WideElems.Trod_stays hl ht.1.1 ht.1.2 h1 (fun x hx=>hb.same (hlt x (List.mem_append_left _ hx))) (fun x hx=>hs x (List.mem_append_left _ hx)),trodAll_stays hl hb (by simpa using ht.2) h2 (fun x hx=>hlt x (List.mem_append_right _ hx)) (fun x hx=>hs x (List.mem_append_right _ hx)),rfl⟩
theorem law_post {f:Func} {s:ChangeSpec} {t:TypeId} {args:Array Value} {ds gs:List (DataW H)} {before:List MemPlace} (hl:laidOutB P = true)
    (hts:(f.params.toList.all fun t=>P.readableRec t && decide (t < P.types.size)) = true) (hrt:f.resultTypes = #[t]) (ht:P.underlying t = some .bool)
    (hW:DataW.Whole enc P f.params.toList s.vars false w args.toList ds gs before) (hv:s.vars = []) (hfn:s.fn H (ds ++ gs) = { results:=[.lit (.bool true)],args:=ds }) (g:w.grownBy w' none) :
    s.post enc P f false true false false w args (.bool true) w':=by
  have hW0:=hW
  have hlt:=fun p hp=>hW.lt (p:=p) hp
  obtain ⟨p,q,hA,hV,e,hz,hn⟩:=hW
  rw [hv] at hV
  have hq:q = []:=by
    cases gs with
    | nil=>exact hV
    | cons _ _=>exact hV.elim
  subst hq
  have hg0:gs = []:=by
    cases gs with
    | nil=>rfl
    | cons _ _=>exact hV.elim
  subst hg0
  rw [List.append_nil] at e
  subst e
  have hb:=below_grown g
  refine ⟨ds,[],before,[],before,[],hW0,?_,?_,?_,World.keptBut_mono (fun _ hf=>hf.elim) (hb.frame fun _=>False),fun h=>by cases h⟩
  · rw [hfn,hrt]
    refine ⟨[],[],?_,rfl,rfl⟩
    exact ⟨1,by simp [DataW.trod,Value.resultList,ht,Value.cells]⟩
  · rw [hfn]
    exact trodAll_stays hl hb hts hA hlt (fun p hp=>by simpa using hlt p hp)
  · rw [hfn,hv]; rfl
variable {base n:Nat} {sp:Nat → Bool} {hd:Bool} {t e:TypeId} {cs:List Value} {x:DataW H × List MemPlace}
def rng (x:Int):Prop := -9223372036854775808 ≤ x∧x ≤ 9223372036854775807
theorem tr_int (ht:P.underlying t = some (.int .i64)) (h:DataW.trod enc P w base sp hd n t cs = some x) : ∃ m,cs = [.int .i64 m]∧rng m:=by
  obtain ⟨m,h1,_,h2⟩:=DataW.trod_int ht h
  refine ⟨m,h1,?_⟩
  simp only [Lit.wf,Bool.and_eq_true,decide_eq_true_eq] at h2
  have e1:IntKind.min .i64 = -9223372036854775808:=by decide
  have e2:IntKind.max .i64 = 9223372036854775807:=by decide
  rw [e1,e2] at h2
  exact h2
theorem tr_str (ht:P.underlying t = some .string) (h:DataW.trod enc P w base sp hd n t cs = some x) : ∃ l:List UInt8,cs = [.string (tx l)]:=by
  obtain ⟨s,h1,_⟩:=DataW.trod_string ht h
  exact ⟨s.data.toList,by rw [h1]; rfl⟩
theorem mapM_get {α β:Type} {f:α → Option β} : ∀ {l:List α} {r:List β},l.mapM f = some r → r.length = l.length ∧ ∀ (j:Nat) (u:β),r[j]? = some u → ∃ y,l[j]? = some y∧f y = some u
  | [],r,h=>by
    simp at h; subst h; simp
  | y :: l,r,h=>by
    rw [List.mapM_cons] at h
    cases hy:f y with
    | none=>simp [hy] at h
    | some b =>
      cases hl:l.mapM f with
      | none=>simp [hy,hl] at h
      | some bs =>
        simp [hy,hl] at h
        subst h
        have ih:=mapM_get hl
        refine ⟨by simp [ih.1],fun j u hu=>?_⟩
        cases j with
        | zero=>simp at hu; subst hu; exact ⟨y,rfl,hy⟩
        | succ j=>simp at hu; simpa using ih.2 j u hu
theorem cells_cl {a:Addr} {k:Nat} {ys:List Value} (h:w.cells? base a k = some ys):ys.length = k∧Cl w a ys:=by
  unfold World.cells? at h
  split at h
  · have h1:=mapM_get h
    refine ⟨by simpa using h1.1,fun j u hu=>?_⟩
    obtain ⟨y,hy,hf⟩:=h1.2 j u hu
    have hj:=lt_len hu
    rw [h1.1,List.length_range] at hj
    rw [List.getElem?_range hj] at hy
    injection hy with hy
    subst hy
    exact hf
  · cases h
theorem tr_rd (ht:P.underlying t = some (.slice e)) {k:Nat} (hke:P.cellsOf e = k) (hk:0 < k) (h:DataW.trod enc P w base sp hd n t cs = some x) :
    ∃ (A:Option Addr) (len cap m:Nat) (xss:List (List Value)),cs = [.slice A len cap]∧len = xss.length∧len ≤ cap∧Rd w w.heap.size k A xss ∧ ∀ y ∈ xss, ∃ z,DataW.trod enc P w base sp hd m e y = some z:=by
  subst hke
  rcases DataW.trod_slice ht h with ⟨h1,_⟩ | ⟨a,len,cap,elems,rest,m,_,h1,_,hb,hlc,hcm,hel,hg,_⟩
  · exact ⟨none,0,0,0,[],h1,rfl,Nat.le_refl _,Rd.nil_ _ _ _ _,by simp⟩
  · let g:Nat → List Value:=fun i=>(w.cells? base (a.add (i * P.cellsOf e)) (P.cellsOf e)).getD []
    have hget : ∀ i,i < len → w.cells? base (a.add (i * P.cellsOf e)) (P.cellsOf e) = some (g i) ∧ ∃ z,DataW.trod enc P w base sp hd m e (g i) = some z:=by
      intro i hi
      have h2:=hg i hi
      rw [List.getElem?_eq_getElem (by omega)] at h2
      cases hc:w.cells? base (a.add (i * P.cellsOf e)) (P.cellsOf e) with
      | none=>rw [hc] at h2; simp at h2
      | some ys =>
        rw [hc] at h2
        simp only [g,hc,Option.getD_some]
        exact ⟨trivial,_,h2⟩
    refine ⟨some a,len,cap,m,(List.range len).map g,h1,by simp,hlc,⟨fun y hy=>?_,fun hne=>⟨a,rfl,?_,fun i y hy=>?_⟩⟩,fun y hy=>?_⟩
    · obtain ⟨i,hi,rfl⟩:=List.mem_map.1 hy
      exact (cells_cl (hget i (List.mem_range.1 hi)).1).1
    · have h0:0 < len:=by
        rcases Nat.eq_zero_or_pos len with h0 | h0
        · subst h0; simp at hne
        · exact h0
      have hc:=cells_cl (hget 0 h0).1
      have hlt:0 < (g 0).length:=by omega
      have:=hc.2 0 _ (List.getElem?_eq_getElem hlt)
      have:=World.block_lt_of_cell? w _ this
      rwa [add_block,add_block] at this
    · rw [List.getElem?_map] at hy
      have hi:i < len:=by
        rcases Nat.lt_or_ge i len with h3 | h3
        · exact h3
        · rw [List.getElem?_eq_none (by simpa using h3)] at hy; simp at hy
      rw [List.getElem?_range hi] at hy
      simp at hy
      subst hy
      exact (cells_cl (hget i hi).1).2
    · obtain ⟨i,hi,rfl⟩:=List.mem_map.1 hy
      exact (hget i (List.mem_range.1 hi)).2
theorem tr_fields {fs:Array Field} (ht:P.underlying t = some (.struct fs)) {k:Nat} (hk:P.cellsOf t = k) (h:DataW.trod enc P w base sp hd n t cs = some x) :
    cs.length = k ∧ ∃ m, ∀ (i:Nat) (f:Field),fs[i]? = some f → ∃ y,DataW.trod enc P w base sp hd m f.type ((cs.drop f.offset).take (P.cellsOf f.type)) = some y:=by
  obtain ⟨xs,m,_,_,hl,hlen,hf⟩:=DataW.trod_struct ht h
  refine ⟨by rw [hl,hk],m,fun i f hi=>?_⟩
  have hlt:i < xs.length:=by rw [hlen]; exact (Array.getElem?_eq_some_iff.1 hi).1
  exact ⟨_,(hf i f hi).trans (List.getElem?_eq_getElem hlt)⟩
theorem Bq {α:Type} {n:Nat} {l:List α} (h:l.length = n + 1) : ∃ a t,l = a :: t∧t.length = n:=by
  cases l with
  | nil=>simp at h
  | cons a t=>exact ⟨a,t,rfl,by simpa using h⟩
theorem tr_list {α:Type} {f:α → List Value} {p:α → Prop} {q:List Value → Prop} (h : ∀ y,q y → ∃ z,y = f z∧p z) : ∀ {xss:List (List Value)},(∀ y ∈ xss,q y) → ∃ l:List α,xss = l.map f ∧ ∀ z ∈ l,p z
  | [],_=>⟨[],rfl,by simp⟩
  | y :: xss,hq=>by
    obtain ⟨z,hz,hp⟩:=h y (hq y (by simp))
    obtain ⟨l,hl,hlp⟩:=tr_list h (xss:=xss) (fun y hy=>hq y (List.mem_cons_of_mem _ hy))
    exact ⟨z :: l,by rw [hz,hl]; rfl,fun u hu=>by
      rcases List.mem_cons.1 hu with rfl | hu
      · exact hp
      · exact hlp u hu⟩
def Op.ok (o:Op):Prop:=rng o.kind∧rng o.h∧rng o.i∧rng o.n∧rng o.k∧rng o.v∧rng o.t
def Entry.ok (e:Entry):Prop:=rng e.num∧rng e.view∧rng e.client∧rng e.seq∧e.op.ok
theorem tr_agg {fs:Array Field} {v:Value} (ht:P.underlying t = some (.struct fs)) {r:Reach} {b0:Nat} (hv:Value.okWide P w r b0 t v) : ∃ l:List Value,v = .agg l.toArray∧v.cells.toList = l:=by
  unfold Value.okWide at hv
  rw [ht] at hv
  obtain ⟨cs,h1,_,_⟩:=hv
  exact ⟨cs.toList,by rw [h1],by rw [h1]; rfl⟩
end
end Go.Eng
namespace Go.Proofs.YtfokljnhllflbaaGreat
open Go Go.Eng Go.RowKit Go.Proofs.Tryz
theorem _root_.Go.Proofs.Tryz.own:ownKnob prog.godebug = none:=by kernel_rfl
theorem _root_.Go.Proofs.Tryz.laidOut:laidOutB prog = true:=by kernel_rfl
theorem co3:prog.cellsOf 3 = 1:=by kernel_rfl
theorem co9:prog.cellsOf 9 = 1:=by kernel_rfl
theorem co22:prog.cellsOf 22 = 1:=by kernel_rfl
theorem co24:prog.cellsOf 24 = 5:=by kernel_rfl
theorem co26:prog.cellsOf 26 = 1:=by kernel_rfl
theorem co27:prog.cellsOf 27 = 1:=by kernel_rfl
theorem co29:prog.cellsOf 29 = 7:=by kernel_rfl
theorem co31:prog.cellsOf 31 = 11:=by kernel_rfl
theorem co33:prog.cellsOf 33 = 17:=by kernel_rfl
theorem op_Op {H:Type} {enc:TypeId × Value → H} {w:World} {b n:Nat} {sp:Nat → Bool} {hd:Bool} {cs:List Value} {x:DataW H × List MemPlace} (h:DataW.trod enc prog w b sp hd n 29 cs = some x) : ∃ o:Eng.Op,cs = o.cells∧o.ok:=by
  obtain ⟨hl,m,hf⟩:=tr_fields underlying29 co29 h
  obtain ⟨y0,h0⟩ : ∃ y,DataW.trod enc prog w b sp hd m 27 ((cs.drop 0).take (prog.cellsOf 27)) = some y:=hf 0 _ rfl
  obtain ⟨y1,h1⟩ : ∃ y,DataW.trod enc prog w b sp hd m 3 ((cs.drop 1).take (prog.cellsOf 3)) = some y:=hf 1 _ rfl
  obtain ⟨y2,h2⟩ : ∃ y,DataW.trod enc prog w b sp hd m 3 ((cs.drop 2).take (prog.cellsOf 3)) = some y:=hf 2 _ rfl
  obtain ⟨y3,h3⟩ : ∃ y,DataW.trod enc prog w b sp hd m 3 ((cs.drop 3).take (prog.cellsOf 3)) = some y:=hf 3 _ rfl
  obtain ⟨y4,h4⟩ : ∃ y,DataW.trod enc prog w b sp hd m 3 ((cs.drop 4).take (prog.cellsOf 3)) = some y:=hf 4 _ rfl
  obtain ⟨y5,h5⟩ : ∃ y,DataW.trod enc prog w b sp hd m 3 ((cs.drop 5).take (prog.cellsOf 3)) = some y:=hf 5 _ rfl
  obtain ⟨y6,h6⟩ : ∃ y,DataW.trod enc prog w b sp hd m 3 ((cs.drop 6).take (prog.cellsOf 3)) = some y:=hf 6 _ rfl
  clear hf
  obtain ⟨c0,t0_,rfl,hl0⟩:=Bq hl
  obtain ⟨c1,t1_,rfl,hl1⟩:=Bq hl0
  obtain ⟨c2,t2_,rfl,hl2⟩:=Bq hl1
  obtain ⟨c3,t3_,rfl,hl3⟩:=Bq hl2
  obtain ⟨c4,t4_,rfl,hl4⟩:=Bq hl3
  obtain ⟨c5,t5_,rfl,hl5⟩:=Bq hl4
  obtain ⟨c6,t6_,rfl,hl6⟩:=Bq hl5
  have ht_:=List.eq_nil_of_length_eq_zero hl6; subst ht_
  have g0:DataW.trod enc prog w b sp hd m 27 [c0] = some y0:=by have:=h0; rw [co27] at this; exact this
  obtain ⟨f0,e0,r0⟩:=tr_int underlying27 g0; injection e0 with e0; subst e0
  have g1:DataW.trod enc prog w b sp hd m 3 [c1] = some y1:=by have:=h1; rw [co3] at this; exact this
  obtain ⟨f1,e1,r1⟩:=tr_int underlying3 g1; injection e1 with e1; subst e1
  have g2:DataW.trod enc prog w b sp hd m 3 [c2] = some y2:=by have:=h2; rw [co3] at this; exact this
  obtain ⟨f2,e2,r2⟩:=tr_int underlying3 g2; injection e2 with e2; subst e2
  have g3:DataW.trod enc prog w b sp hd m 3 [c3] = some y3:=by have:=h3; rw [co3] at this; exact this
  obtain ⟨f3,e3,r3⟩:=tr_int underlying3 g3; injection e3 with e3; subst e3
  have g4:DataW.trod enc prog w b sp hd m 3 [c4] = some y4:=by have:=h4; rw [co3] at this; exact this
  obtain ⟨f4,e4,r4⟩:=tr_int underlying3 g4; injection e4 with e4; subst e4
  have g5:DataW.trod enc prog w b sp hd m 3 [c5] = some y5:=by have:=h5; rw [co3] at this; exact this
  obtain ⟨f5,e5,r5⟩:=tr_int underlying3 g5; injection e5 with e5; subst e5
  have g6:DataW.trod enc prog w b sp hd m 3 [c6] = some y6:=by have:=h6; rw [co3] at this; exact this
  obtain ⟨f6,e6,r6⟩:=tr_int underlying3 g6; injection e6 with e6; subst e6
  exact ⟨⟨f0,f1,f2,f3,f4,f5,f6⟩,rfl,r0,r1,r2,r3,r4,r5,r6⟩
theorem op_Entry {H:Type} {enc:TypeId × Value → H} {w:World} {b n:Nat} {sp:Nat → Bool} {hd:Bool} {cs:List Value} {x:DataW H × List MemPlace} (h:DataW.trod enc prog w b sp hd n 31 cs = some x) : ∃ e:Entry,cs = e.cells∧e.ok:=by
  obtain ⟨hl,m,hf⟩:=tr_fields underlying31 co31 h
  obtain ⟨y0,h0⟩ : ∃ y,DataW.trod enc prog w b sp hd m 3 ((cs.drop 0).take (prog.cellsOf 3)) = some y:=hf 0 _ rfl
  obtain ⟨y1,h1⟩ : ∃ y,DataW.trod enc prog w b sp hd m 3 ((cs.drop 1).take (prog.cellsOf 3)) = some y:=hf 1 _ rfl
  obtain ⟨y2,h2⟩ : ∃ y,DataW.trod enc prog w b sp hd m 3 ((cs.drop 2).take (prog.cellsOf 3)) = some y:=hf 2 _ rfl
  obtain ⟨y3,h3⟩ : ∃ y,DataW.trod enc prog w b sp hd m 3 ((cs.drop 3).take (prog.cellsOf 3)) = some y:=hf 3 _ rfl
  obtain ⟨y4,h4⟩ : ∃ y,DataW.trod enc prog w b sp hd m 29 ((cs.drop 4).take (prog.cellsOf 29)) = some y:=hf 4 _ rfl
  clear hf
  obtain ⟨c0,t0_,rfl,hl0⟩:=Bq hl
  obtain ⟨c1,t1_,rfl,hl1⟩:=Bq hl0
  obtain ⟨c2,t2_,rfl,hl2⟩:=Bq hl1
  obtain ⟨c3,t3_,rfl,hl3⟩:=Bq hl2
  obtain ⟨c4,t4_,rfl,hl4⟩:=Bq hl3
  obtain ⟨c5,t5_,rfl,hl5⟩:=Bq hl4
  obtain ⟨c6,t6_,rfl,hl6⟩:=Bq hl5
  obtain ⟨c7,t7_,rfl,hl7⟩:=Bq hl6
  obtain ⟨c8,t8_,rfl,hl8⟩:=Bq hl7
  obtain ⟨c9,t9_,rfl,hl9⟩:=Bq hl8
  obtain ⟨c10,t10_,rfl,hl10⟩:=Bq hl9
  have ht_:=List.eq_nil_of_length_eq_zero hl10; subst ht_
  have g0:DataW.trod enc prog w b sp hd m 3 [c0] = some y0:=by have:=h0; rw [co3] at this; exact this
  obtain ⟨f0,e0,r0⟩:=tr_int underlying3 g0; injection e0 with e0; subst e0
  have g1:DataW.trod enc prog w b sp hd m 3 [c1] = some y1:=by have:=h1; rw [co3] at this; exact this
  obtain ⟨f1,e1,r1⟩:=tr_int underlying3 g1; injection e1 with e1; subst e1
  have g2:DataW.trod enc prog w b sp hd m 3 [c2] = some y2:=by have:=h2; rw [co3] at this; exact this
  obtain ⟨f2,e2,r2⟩:=tr_int underlying3 g2; injection e2 with e2; subst e2
  have g3:DataW.trod enc prog w b sp hd m 3 [c3] = some y3:=by have:=h3; rw [co3] at this; exact this
  obtain ⟨f3,e3,r3⟩:=tr_int underlying3 g3; injection e3 with e3; subst e3
  have g4:DataW.trod enc prog w b sp hd m 29 [c4,c5,c6,c7,c8,c9,c10] = some y4:=by have:=h4; rw [co29] at this; exact this
  obtain ⟨f4,e4,r4⟩:=op_Op g4
  unfold Op.cells at e4; simp only [List.cons.injEq,and_true] at e4; obtain ⟨rfl,rfl,rfl,rfl,rfl,rfl,rfl⟩:=e4
  exact ⟨⟨f0,f1,f2,f3,f4⟩,rfl,r0,r1,r2,r3,r4⟩
theorem op_Kept {H:Type} {enc:TypeId × Value → H} {w:World} {b n:Nat} {sp:Nat → Bool} {hd:Bool} {cs:List Value} {x:DataW H × List MemPlace} (h:DataW.trod enc prog w b sp hd n 24 cs = some x) : ∃ (k:Kept) (A:Option Addr) (n c:Nat),cs = [.int .i64 k.view,.int .i64 k.normal,.int .i64 k.base,.string (tx k.image),.slice A n c]∧Rd w w.heap.size 11 A (ents k.ents)∧n = k.ents.length∧n ≤ c∧rng k.view∧rng k.normal∧rng k.base ∧ ∀ e ∈ k.ents,e.ok:=by
  obtain ⟨hl,m,hf⟩:=tr_fields underlying24 co24 h
  obtain ⟨y0,h0⟩ : ∃ y,DataW.trod enc prog w b sp hd m 3 ((cs.drop 0).take (prog.cellsOf 3)) = some y:=hf 0 _ rfl
  obtain ⟨y1,h1⟩ : ∃ y,DataW.trod enc prog w b sp hd m 3 ((cs.drop 1).take (prog.cellsOf 3)) = some y:=hf 1 _ rfl
  obtain ⟨y2,h2⟩ : ∃ y,DataW.trod enc prog w b sp hd m 3 ((cs.drop 2).take (prog.cellsOf 3)) = some y:=hf 2 _ rfl
  obtain ⟨y3,h3⟩ : ∃ y,DataW.trod enc prog w b sp hd m 9 ((cs.drop 3).take (prog.cellsOf 9)) = some y:=hf 3 _ rfl
  obtain ⟨y4,h4⟩ : ∃ y,DataW.trod enc prog w b sp hd m 22 ((cs.drop 4).take (prog.cellsOf 22)) = some y:=hf 4 _ rfl
  clear hf
  obtain ⟨c0,t0_,rfl,hl0⟩:=Bq hl
  obtain ⟨c1,t1_,rfl,hl1⟩:=Bq hl0
  obtain ⟨c2,t2_,rfl,hl2⟩:=Bq hl1
  obtain ⟨c3,t3_,rfl,hl3⟩:=Bq hl2
  obtain ⟨c4,t4_,rfl,hl4⟩:=Bq hl3
  have ht_:=List.eq_nil_of_length_eq_zero hl4; subst ht_
  have g0:DataW.trod enc prog w b sp hd m 3 [c0] = some y0:=by have:=h0; rw [co3] at this; exact this
  obtain ⟨f0,e0,r0⟩:=tr_int underlying3 g0; injection e0 with e0; subst e0
  have g1:DataW.trod enc prog w b sp hd m 3 [c1] = some y1:=by have:=h1; rw [co3] at this; exact this
  obtain ⟨f1,e1,r1⟩:=tr_int underlying3 g1; injection e1 with e1; subst e1
  have g2:DataW.trod enc prog w b sp hd m 3 [c2] = some y2:=by have:=h2; rw [co3] at this; exact this
  obtain ⟨f2,e2,r2⟩:=tr_int underlying3 g2; injection e2 with e2; subst e2
  have g3:DataW.trod enc prog w b sp hd m 9 [c3] = some y3:=by have:=h3; rw [co9] at this; exact this
  obtain ⟨f3,e3⟩:=tr_str underlying9 g3; injection e3 with e3; subst e3
  have g4:DataW.trod enc prog w b sp hd m 22 [c4] = some y4:=by have:=h4; rw [co22] at this; exact this
  obtain ⟨A4,n4,c4_,m4,xss4,e4,hn4,hc4,hr4,hx4⟩:=tr_rd underlying22 co31 (by decide) g4; injection e4 with e4; subst e4
  obtain ⟨l4,q4,p4⟩:=tr_list (f:=Entry.cells) (p:=Entry.ok) (fun y hy=>by obtain ⟨z,hz⟩:=hy; exact op_Entry hz) hx4; subst q4; rw [List.length_map] at hn4
  exact ⟨⟨f0,f1,f2,f3,l4⟩,A4,n4,c4_,rfl,hr4,hn4,hc4,r0,r1,r2,p4⟩
theorem op_Rec {H:Type} {enc:TypeId × Value → H} {w:World} {b n:Nat} {sp:Nat → Bool} {hd:Bool} {cs:List Value} {x:DataW H × List MemPlace} (h:DataW.trod enc prog w b sp hd n 33 cs = some x) : ∃ (r:Rec) (A:Option Addr) (n c:Nat),cs = [(.int .i64 r.kind),(.int .i64 r.view),(.int .i64 r.from_),(.int .i64 r.number),(.string (tx r.image)),(.int .i64 r.entry.num),(.int .i64 r.entry.view),(.int .i64 r.entry.client),(.int .i64 r.entry.seq),(.int .i64 r.entry.op.kind),(.int .i64 r.entry.op.h),(.int .i64 r.entry.op.i),(.int .i64 r.entry.op.n),(.int .i64 r.entry.op.k),(.int .i64 r.entry.op.v),(.int .i64 r.entry.op.t),(.slice A n c)]∧Rd w w.heap.size 11 A (ents r.ents)∧n = r.ents.length∧n ≤ c∧rng r.kind∧rng r.view∧rng r.from_∧rng r.number ∧ ∀ e ∈ r.ents,e.ok:=by
  obtain ⟨hl,m,hf⟩:=tr_fields underlying33 co33 h
  obtain ⟨y0,h0⟩ : ∃ y,DataW.trod enc prog w b sp hd m 26 ((cs.drop 0).take (prog.cellsOf 26)) = some y:=hf 0 _ rfl
  obtain ⟨y1,h1⟩ : ∃ y,DataW.trod enc prog w b sp hd m 3 ((cs.drop 1).take (prog.cellsOf 3)) = some y:=hf 1 _ rfl
  obtain ⟨y2,h2⟩ : ∃ y,DataW.trod enc prog w b sp hd m 3 ((cs.drop 2).take (prog.cellsOf 3)) = some y:=hf 2 _ rfl
  obtain ⟨y3,h3⟩ : ∃ y,DataW.trod enc prog w b sp hd m 3 ((cs.drop 3).take (prog.cellsOf 3)) = some y:=hf 3 _ rfl
  obtain ⟨y4,h4⟩ : ∃ y,DataW.trod enc prog w b sp hd m 9 ((cs.drop 4).take (prog.cellsOf 9)) = some y:=hf 4 _ rfl
  obtain ⟨y5,h5⟩ : ∃ y,DataW.trod enc prog w b sp hd m 31 ((cs.drop 5).take (prog.cellsOf 31)) = some y:=hf 5 _ rfl
  obtain ⟨y6,h6⟩ : ∃ y,DataW.trod enc prog w b sp hd m 22 ((cs.drop 16).take (prog.cellsOf 22)) = some y:=hf 6 _ rfl
  clear hf
  obtain ⟨c0,t0_,rfl,hl0⟩:=Bq hl
  obtain ⟨c1,t1_,rfl,hl1⟩:=Bq hl0
  obtain ⟨c2,t2_,rfl,hl2⟩:=Bq hl1
  obtain ⟨c3,t3_,rfl,hl3⟩:=Bq hl2
  obtain ⟨c4,t4_,rfl,hl4⟩:=Bq hl3
  obtain ⟨c5,t5_,rfl,hl5⟩:=Bq hl4
  obtain ⟨c6,t6_,rfl,hl6⟩:=Bq hl5
  obtain ⟨c7,t7_,rfl,hl7⟩:=Bq hl6
  obtain ⟨c8,t8_,rfl,hl8⟩:=Bq hl7
  obtain ⟨c9,t9_,rfl,hl9⟩:=Bq hl8
  obtain ⟨c10,t10_,rfl,hl10⟩:=Bq hl9
  obtain ⟨c11,t11_,rfl,hl11⟩:=Bq hl10
  obtain ⟨c12,t12_,rfl,hl12⟩:=Bq hl11
  obtain ⟨c13,t13_,rfl,hl13⟩:=Bq hl12
  obtain ⟨c14,t14_,rfl,hl14⟩:=Bq hl13
  obtain ⟨c15,t15_,rfl,hl15⟩:=Bq hl14
  obtain ⟨c16,t16_,rfl,hl16⟩:=Bq hl15
  have ht_:=List.eq_nil_of_length_eq_zero hl16; subst ht_
  have g0:DataW.trod enc prog w b sp hd m 26 [c0] = some y0:=by have:=h0; rw [co26] at this; exact this
  obtain ⟨f0,e0,r0⟩:=tr_int underlying26 g0; injection e0 with e0; subst e0
  have g1:DataW.trod enc prog w b sp hd m 3 [c1] = some y1:=by have:=h1; rw [co3] at this; exact this
  obtain ⟨f1,e1,r1⟩:=tr_int underlying3 g1; injection e1 with e1; subst e1
  have g2:DataW.trod enc prog w b sp hd m 3 [c2] = some y2:=by have:=h2; rw [co3] at this; exact this
  obtain ⟨f2,e2,r2⟩:=tr_int underlying3 g2; injection e2 with e2; subst e2
  have g3:DataW.trod enc prog w b sp hd m 3 [c3] = some y3:=by have:=h3; rw [co3] at this; exact this
  obtain ⟨f3,e3,r3⟩:=tr_int underlying3 g3; injection e3 with e3; subst e3
  have g4:DataW.trod enc prog w b sp hd m 9 [c4] = some y4:=by have:=h4; rw [co9] at this; exact this
  obtain ⟨f4,e4⟩:=tr_str underlying9 g4; injection e4 with e4; subst e4
  have g5:DataW.trod enc prog w b sp hd m 31 [c5,c6,c7,c8,c9,c10,c11,c12,c13,c14,c15] = some y5:=by have:=h5; rw [co31] at this; exact this
  obtain ⟨f5,e5,r5⟩:=op_Entry g5
  have g6:DataW.trod enc prog w b sp hd m 22 [c16] = some y6:=by have:=h6; rw [co22] at this; exact this
  obtain ⟨A6,n6,c6_,m6,xss6,e6,hn6,hc6,hr6,hx6⟩:=tr_rd underlying22 co31 (by decide) g6; injection e6 with e6; subst e6
  obtain ⟨l6,q6,p6⟩:=tr_list (f:=Entry.cells) (p:=Entry.ok) (fun y hy=>by obtain ⟨z,hz⟩:=hy; exact op_Entry hz) hx6; subst q6; rw [List.length_map] at hn6
  unfold Entry.cells at e5; simp only [List.cons.injEq,and_true] at e5; obtain ⟨rfl,rfl,rfl,rfl,rfl,rfl,rfl,rfl,rfl,rfl,rfl⟩:=e5
  exact ⟨⟨f0,f1,f2,f3,f4,f5,l6⟩,A6,n6,c6_,rfl,hr6,hn6,hc6,r0,r1,r2,r3,p6⟩
end Go.Proofs.YtfokljnhllflbaaGreat
namespace Go.Proofs.YtfokljnhllflbaaGreat
open Go Go.Eng Go.RowKit Go.Proofs.Tryz
theorem eqIn3 (d:Nat) (a b:Int) (w:World):(Go.Op.equalIn (d + 1) 3 (.int .i64 a) (.int .i64 b)).run prog w = .ok (decide (a = b)) w:=by
  rw [show decide (a = b) = (a == b) from rfl]; simp [Go.Op.equalIn,run_underlying underlying3]
set_option maxHeartbeats 1000000 in
theorem eqIn133 (d:Nat) (a0 a1 b0 b1:Int) (w:World):(Go.Op.equalIn (d + 2) 133 (.agg #[.int .i64 a0,.int .i64 a1]) (.agg #[.int .i64 b0,.int .i64 b1])).run prog w = .ok (decide (a0 = b0∧a1 = b1)) w:=by
  unfold Go.Op.equalIn
  simp [go_sem,run_underlying underlying133,run_underlying underlying3,eqIn3]
  repeat' split
  all_goals (first | rfl | simp_all)
theorem eqT133 {r:Bool} {a0 a1 b0 b1:Int} (hr:decide (a0 = b0∧a1 = b1) = r) (w:World):(Go.Op.equal 133 (.agg [.int .i64 a0,.int .i64 a1].toArray) (.agg [.int .i64 b0,.int .i64 b1].toArray)).run prog w = .ok r w:=by
  subst hr; exact eqIn133 9998 a0 a1 b0 b1 w
theorem eqIn27 (d:Nat) (a b:Int) (w:World):(Go.Op.equalIn (d + 1) 27 (.int .i64 a) (.int .i64 b)).run prog w = .ok (decide (a = b)) w:=by
  rw [show decide (a = b) = (a == b) from rfl]; simp [Go.Op.equalIn,run_underlying underlying27]
set_option maxHeartbeats 1000000 in
theorem eqIn29 (d:Nat) (a0 a1 a2 a3 a4 a5 a6 b0 b1 b2 b3 b4 b5 b6:Int) (w:World):(Go.Op.equalIn (d + 2) 29 (.agg #[.int .i64 a0,.int .i64 a1,.int .i64 a2,.int .i64 a3,.int .i64 a4,.int .i64 a5,.int .i64 a6]) (.agg #[.int .i64 b0,.int .i64 b1,.int .i64 b2,.int .i64 b3,.int .i64 b4,.int .i64 b5,.int .i64 b6])).run prog w = .ok (decide (a0 = b0∧a1 = b1∧a2 = b2∧a3 = b3∧a4 = b4∧a5 = b5∧a6 = b6)) w:=by
  unfold Go.Op.equalIn
  simp [go_sem,run_underlying underlying29,run_underlying underlying3,run_underlying underlying27,eqIn3,eqIn27]
  repeat' split
  all_goals (first | rfl | simp_all)
theorem eqT29 {r:Bool} {a0 a1 a2 a3 a4 a5 a6 b0 b1 b2 b3 b4 b5 b6:Int} (hr:decide (a0 = b0∧a1 = b1∧a2 = b2∧a3 = b3∧a4 = b4∧a5 = b5∧a6 = b6) = r) (w:World):(Go.Op.equal 29 (.agg [.int .i64 a0,.int .i64 a1,.int .i64 a2,.int .i64 a3,.int .i64 a4,.int .i64 a5,.int .i64 a6].toArray) (.agg [.int .i64 b0,.int .i64 b1,.int .i64 b2,.int .i64 b3,.int .i64 b4,.int .i64 b5,.int .i64 b6].toArray)).run prog w = .ok r w:=by
  subst hr; exact eqIn29 9998 a0 a1 a2 a3 a4 a5 a6 b0 b1 b2 b3 b4 b5 b6 w
set_option maxHeartbeats 1000000 in
theorem eqIn31 (d:Nat) (a0 a1 a2 a3 a4 a5 a6 a7 a8 a9 a10 b0 b1 b2 b3 b4 b5 b6 b7 b8 b9 b10:Int) (w:World):(Go.Op.equalIn (d + 3) 31 (.agg #[.int .i64 a0,.int .i64 a1,.int .i64 a2,.int .i64 a3,.int .i64 a4,.int .i64 a5,.int .i64 a6,.int .i64 a7,.int .i64 a8,.int .i64 a9,.int .i64 a10]) (.agg #[.int .i64 b0,.int .i64 b1,.int .i64 b2,.int .i64 b3,.int .i64 b4,.int .i64 b5,.int .i64 b6,.int .i64 b7,.int .i64 b8,.int .i64 b9,.int .i64 b10])).run prog w = .ok (decide (a0 = b0∧a1 = b1∧a2 = b2∧a3 = b3∧a4 = b4∧a5 = b5∧a6 = b6∧a7 = b7∧a8 = b8∧a9 = b9∧a10 = b10)) w:=by
  unfold Go.Op.equalIn
  simp [go_sem,run_underlying underlying31,run_underlying underlying3,run_underlying underlying29,eqIn3,eqIn29]
  repeat' split
  all_goals (first | rfl | simp_all)
theorem eqT31 {r:Bool} {a0 a1 a2 a3 a4 a5 a6 a7 a8 a9 a10 b0 b1 b2 b3 b4 b5 b6 b7 b8 b9 b10:Int} (hr:decide (a0 = b0∧a1 = b1∧a2 = b2∧a3 = b3∧a4 = b4∧a5 = b5∧a6 = b6∧a7 = b7∧a8 = b8∧a9 = b9∧a10 = b10) = r) (w:World):(Go.Op.equal 31 (.agg [.int .i64 a0,.int .i64 a1,.int .i64 a2,.int .i64 a3,.int .i64 a4,.int .i64 a5,.int .i64 a6,.int .i64 a7,.int .i64 a8,.int .i64 a9,.int .i64 a10].toArray) (.agg [.int .i64 b0,.int .i64 b1,.int .i64 b2,.int .i64 b3,.int .i64 b4,.int .i64 b5,.int .i64 b6,.int .i64 b7,.int .i64 b8,.int .i64 b9,.int .i64 b10].toArray)).run prog w = .ok r w:=by
  subst hr; exact eqIn31 9997 a0 a1 a2 a3 a4 a5 a6 a7 a8 a9 a10 b0 b1 b2 b3 b4 b5 b6 b7 b8 b9 b10 w
end Go.Proofs.YtfokljnhllflbaaGreat
namespace Go.Proofs.YtfokljnhllflbaaGreat
open Go Go.Eng Go.RowKit Go.Proofs.Tryz
set_option maxHeartbeats 400000 in
set_option maxRecDepth 20000 in
theorem within_table (w : World) (n lo hi : Int) : Ret prog 160 [(J n), (J lo), (J hi)] w (fun v w' => v = .bool (Az n lo hi) ∧ w = w') := by
  refine aP func160 Z Z Z ?_
  refine cT (za bF Z (cS (cT (zm (J n) Z (zm (J lo) Z ?_)))))
  refine zc ((lo:Int) ≤ (n:Int)) Z (fun r hr=>bO Z Z hr) (fun h1=>?_) (fun h1=>?_)
  ·refine zm bT Z (zm (J n) Z (zm (J hi) Z ?_))
   refine zc ((n:Int) ≤ (hi:Int)) Z (fun r hr=>bM Z Z hr) (fun h2=>?_) (fun h2=>?_)
   ·refine zT bT Z (za bT Z (cS (aB (aO (v:=bT) (Ba Z Z) ?_))))
    exact ⟨by congr 1; simp [Az]; omega,rfl⟩
   ·refine zT bF Z (za bF Z (cS (aB (aO (v:=bF) (Ba Z Z) ?_))))
    exact ⟨by congr 1; simp [Az]; omega,rfl⟩
  ·refine zm bF Z (zo Z (zo Z (zo Z (zF bF Z (za bF Z (cS (aB (aO (v:=bF) (Ba Z Z) ?_))))))))
   exact ⟨by congr 1; simp [Az]; omega,rfl⟩
set_option maxHeartbeats 400000 in
set_option maxRecDepth 20000 in
theorem within_oplog (w : World) (n lo hi : Int) : Ret prog 122 [(J n), (J lo), (J hi)] w (fun v w' => v = .bool (Az n lo hi) ∧ w = w') := by
  refine aP func122 Z Z Z ?_
  refine cT (za bF Z (cS (cT (zm (J n) Z (zm (J lo) Z ?_)))))
  refine zc ((lo:Int) ≤ (n:Int)) Z (fun r hr=>bO Z Z hr) (fun h1=>?_) (fun h1=>?_)
  ·refine zm bT Z (zm (J n) Z (zm (J hi) Z ?_))
   refine zc ((n:Int) ≤ (hi:Int)) Z (fun r hr=>bM Z Z hr) (fun h2=>?_) (fun h2=>?_)
   ·refine zT bT Z (za bT Z (cS (aB (aO (v:=bT) (Ba Z Z) ?_))))
    exact ⟨by congr 1; simp [Az]; omega,rfl⟩
   ·refine zT bF Z (za bF Z (cS (aB (aO (v:=bF) (Ba Z Z) ?_))))
    exact ⟨by congr 1; simp [Az]; omega,rfl⟩
  ·refine zm bF Z (zo Z (zo Z (zo Z (zF bF Z (za bF Z (cS (aB (aO (v:=bF) (Ba Z Z) ?_))))))))
   exact ⟨by congr 1; simp [Az]; omega,rfl⟩
set_option maxHeartbeats 400000 in
set_option maxRecDepth 20000 in
theorem within_heap (w : World) (n lo hi : Int) : Ret prog 200 [(J n), (J lo), (J hi)] w (fun v w' => v = .bool (Az n lo hi) ∧ w = w') := by
  refine aP func200 Z Z Z ?_
  refine cT (za bF Z (cS (cT (zm (J n) Z (zm (J lo) Z ?_)))))
  refine zc ((lo:Int) ≤ (n:Int)) Z (fun r hr=>bO Z Z hr) (fun h1=>?_) (fun h1=>?_)
  ·refine zm bT Z (zm (J n) Z (zm (J hi) Z ?_))
   refine zc ((n:Int) ≤ (hi:Int)) Z (fun r hr=>bM Z Z hr) (fun h2=>?_) (fun h2=>?_)
   ·refine zT bT Z (za bT Z (cS (aB (aO (v:=bT) (Ba Z Z) ?_))))
    exact ⟨by congr 1; simp [Az]; omega,rfl⟩
   ·refine zT bF Z (za bF Z (cS (aB (aO (v:=bF) (Ba Z Z) ?_))))
    exact ⟨by congr 1; simp [Az]; omega,rfl⟩
  ·refine zm bF Z (zo Z (zo Z (zo Z (zF bF Z (za bF Z (cS (aB (aO (v:=bF) (Ba Z Z) ?_))))))))
   exact ⟨by congr 1; simp [Az]; omega,rfl⟩
set_option maxHeartbeats 400000 in
set_option maxRecDepth 20000 in
theorem within_tumulusref14 (w : World) (n lo hi : Int) : Ret prog 168 [(J n), (J lo), (J hi)] w (fun v w' => v = .bool (Az n lo hi) ∧ w = w') := by
  refine aP func168 Z Z Z ?_
  refine cT (za bF Z (cS (cT (zm (J n) Z (zm (J lo) Z ?_)))))
  refine zc ((lo:Int) ≤ (n:Int)) Z (fun r hr=>bO Z Z hr) (fun h1=>?_) (fun h1=>?_)
  ·refine zm bT Z (zm (J n) Z (zm (J hi) Z ?_))
   refine zc ((n:Int) ≤ (hi:Int)) Z (fun r hr=>bM Z Z hr) (fun h2=>?_) (fun h2=>?_)
   ·refine zT bT Z (za bT Z (cS (aB (aO (v:=bT) (Ba Z Z) ?_))))
    exact ⟨by congr 1; simp [Az]; omega,rfl⟩
   ·refine zT bF Z (za bF Z (cS (aB (aO (v:=bF) (Ba Z Z) ?_))))
    exact ⟨by congr 1; simp [Az]; omega,rfl⟩
  ·refine zm bF Z (zo Z (zo Z (zo Z (zF bF Z (za bF Z (cS (aB (aO (v:=bF) (Ba Z Z) ?_))))))))
   exact ⟨by congr 1; simp [Az]; omega,rfl⟩
set_option maxHeartbeats 400000 in
set_option maxRecDepth 20000 in
theorem within_tumulusref06 (w : World) (n lo hi : Int) : Ret prog 221 [(J n), (J lo), (J hi)] w (fun v w' => v = .bool (Az n lo hi) ∧ w = w') := by
  refine aP func221 Z Z Z ?_
  refine cT (za bF Z (cS (cT (zm (J n) Z (zm (J lo) Z ?_)))))
  refine zc ((lo:Int) ≤ (n:Int)) Z (fun r hr=>bO Z Z hr) (fun h1=>?_) (fun h1=>?_)
  ·refine zm bT Z (zm (J n) Z (zm (J hi) Z ?_))
   refine zc ((n:Int) ≤ (hi:Int)) Z (fun r hr=>bM Z Z hr) (fun h2=>?_) (fun h2=>?_)
   ·refine zT bT Z (za bT Z (cS (aB (aO (v:=bT) (Ba Z Z) ?_))))
    exact ⟨by congr 1; simp [Az]; omega,rfl⟩
   ·refine zT bF Z (za bF Z (cS (aB (aO (v:=bF) (Ba Z Z) ?_))))
    exact ⟨by congr 1; simp [Az]; omega,rfl⟩
  ·refine zm bF Z (zo Z (zo Z (zo Z (zF bF Z (za bF Z (cS (aB (aO (v:=bF) (Ba Z Z) ?_))))))))
   exact ⟨by congr 1; simp [Az]; omega,rfl⟩
set_option maxHeartbeats 400000 in
set_option maxRecDepth 20000 in
theorem words_ (w : World) (o : Int) : Ret prog 201 [(J o)] w (fun v w' => v = .int .i64 (Af o) ∧ w = w') := by
  refine aP func201 Z Z Z ?_
  refine cT (za (J 0) Z (cS (aD (cT (zm (J o) Z ?_)))))
  refine zc ((o:Int) < (0:Int)) Z (fun r hr=>bL Z Z hr) (fun h1=>?_) (fun h1=>?_)
  ·refine zm bT Z (zo Z (zo Z (zT bT Z (cS (aE Z (cT (za (J 0) Z (cS (aB (aR (aO (v:=(J 0)) (Ba Z Z) ?_)))))))))))
   exact ⟨by congr 1; unfold Af; rw [if_pos (by omega)],rfl⟩
  ·refine zm bF Z (zm (J o) Z ?_)
   refine zc ((8:Int) < (o:Int)) Z (fun r hr=>bN Z Z hr) (fun h2=>?_) (fun h2=>?_)
   ·refine zF bT Z (cS (aE Z (cT (za (J 0) Z (cS (aB (aR (aO (v:=(J 0)) (Ba Z Z) ?_))))))))
    exact ⟨by congr 1; unfold Af; rw [if_pos (by omega)],rfl⟩
   ·refine zF bF Z (cS (aF Z (aA (aQ (cT (zm (J o) Z (zg Z (Ex.shl (r:=Af o) Z Z (by omega) (shl_words (by omega) (by omega))) (za (J (Af o)) Z (cS (aB (aO (v:=(J (Af o))) (Ba Z Z) ?_)))))))))))
    exact ⟨Z,rfl⟩
set_option maxHeartbeats 400000 in
set_option maxRecDepth 20000 in
theorem region_ (w : World) (o : Int) : Ret prog 248 [(J o)] w (fun v w' => v = .bool (Az o 3 8) ∧ w = w') := by
  refine aP func248 Z Z Z ?_
  refine cT (za bF Z (cS (cT (zm (J o) Z ?_))))
  refine zc ((3:Int) ≤ (o:Int)) Z (fun r hr=>bO Z Z hr) (fun h1=>?_) (fun h1=>?_)
  ·refine zm bT Z (zm (J o) Z ?_)
   refine zc ((o:Int) ≤ (8:Int)) Z (fun r hr=>bM Z Z hr) (fun h2=>?_) (fun h2=>?_)
   ·refine zT bT Z (za bT Z (cS (aB (aO (v:=bT) (Ba Z Z) ?_))))
    exact ⟨by congr 1; simp [Az]; omega,rfl⟩
   ·refine zT bF Z (za bF Z (cS (aB (aO (v:=bF) (Ba Z Z) ?_))))
    exact ⟨by congr 1; simp [Az]; omega,rfl⟩
  ·refine zm bF Z (zo Z (zo Z (zF bF Z (za bF Z (cS (aB (aO (v:=bF) (Ba Z Z) ?_)))))))
   exact ⟨by congr 1; simp [Az]; omega,rfl⟩
set_option maxHeartbeats 400000 in
set_option maxRecDepth 20000 in
theorem may_ (w:World) (o:Int) (b:Blk):Ret prog 249 [(J o),(.agg (b.cells).toArray)] w (fun v w'=>v = .bool (mayB o b)∧w.grownBy w' none):=by
  refine aP func249 Z Z Z ?_
  refine cT (bH (cs:=b.cells) Z Z Z ?_)
  intro w1 b2 hb3 hz4 g5 o6
  refine za bF Z (cS (aD (aW (fun wq=>World.grownBy w1 wq none) Tryz.mixed (by kernel_rfl) ⟨Z,rfl,rfl,Nat.le_refl _,fun _ _ _=>rfl⟩ (QL.go Z Z Z (fun wq gq=>Cg (b:=⟨b2,1,none⟩) Z Z) (QL.go Z Z Z (fun wq gq=>bW Z (Ax Bw (Ob.cell (v:=(J b.ord)) (o6.st0 gq) Z))) ?_)))))
  refine QL.br (p:=(0:Int) ≤ (b.ord:Int)) Z Z Z (fun r hr wq gq=>bO Z Z hr) (fun h7=>?_) (fun h7=>?_)
  ·refine QL.go Z Z Z (fun wq gq=>aX (v:=bT) Z) (QL.go Z Z Z (fun wq gq=>Cg (b:=⟨b2,1,none⟩) Z Z) (QL.go Z Z Z (fun wq gq=>bW Z (Ax Bw (Ob.cell (v:=(J b.ord)) (o6.st0 gq) Z))) (QL.go Z Z Z (fun wq gq=>aX (v:=(J o)) Z) ?_)))
   refine QL.br (p:=(b.ord:Int) ≤ (o:Int)) Z Z Z (fun r hr wq gq=>bM Z Z hr) (fun h8=>?_) (fun h8=>?_)
   ·refine QL.go Z Z Z (fun wq gq=>aZ (v:=bT) Z Z) (QL.go Z Z Z (fun wq gq=>aX (v:=bT) Z) (QL.go Z Z Z (fun wq gq=>Cs (b:=⟨b2,0,none⟩) Z Z) (QL.go Z Z Z (fun wq gq=>bW Z (Ax Bw (Ob.cell (v:=(J b.at_)) (o6.st0 gq) Z))) ?_)))
    refine QL.br (p:=(0:Int) ≤ (b.at_:Int)) Z Z Z (fun r hr wq gq=>bO Z Z hr) (fun h9=>?_) (fun h9=>?_)
    ·refine QL.go Z Z Z (fun wq gq=>aZ (v:=bT) Z Z) (QL.go Z Z Z (fun wq gq=>aX (v:=bT) Z) (QL.go Z Z Z (fun wq gq=>Cs (b:=⟨b2,0,none⟩) Z Z) (QL.go Z Z Z (fun wq gq=>bW Z (Ax Bw (Ob.cell (v:=(J b.at_)) (o6.st0 gq) Z))) (QL.go Z Z Z (fun wq gq=>aX (v:=(J o)) Z) ?_))))
     have wb10:=Bc o
     refine QL.call (v:=(J (Af o))) call201 (fun wq gq=>(words_ wq o).mono (fun _ _ hh=>⟨hh.1,hh.2 ▸ gq⟩)) Z Z Z (QL.go Z Z Z (fun wq gq=>Cg (b:=⟨b2,1,none⟩) Z Z) (QL.go Z Z Z (fun wq gq=>bW Z (Ax Bw (Ob.cell (v:=(J b.ord)) (o6.st0 gq) Z))) ?_))
     have wb11:=Bc b.ord
     refine QL.call (v:=(J (Af b.ord))) call201 (fun wq gq=>(words_ wq b.ord).mono (fun _ _ hh=>⟨hh.1,hh.2 ▸ gq⟩)) Z Z Z (QL.go Z Z Z (fun wq gq=>bJ (r:=(Af o) - (Af b.ord)) Z Z (Dl (by omega) (by omega))) ?_)
     refine QL.br (p:=(b.at_:Int) ≤ ((Af o) - (Af b.ord):Int)) Z Z Z (fun r hr wq gq=>bM Z Z hr) (fun h12=>?_) (fun h12=>?_)
     ·refine QL.go Z Z Z (fun wq gq=>aZ (v:=bT) Z Z) (QL.go Z Z Z (fun wq gq=>aX (v:=bT) Z) (QL.go Z Z Z (fun wq gq=>Cs (b:=⟨b2,0,none⟩) Z Z) (QL.go Z Z Z (fun wq gq=>bW Z (Ax Bw (Ob.cell (v:=(J b.at_)) (o6.st0 gq) Z))) (QL.go Z Z Z (fun wq gq=>Cg (b:=⟨b2,1,none⟩) Z Z) (QL.go Z Z Z (fun wq gq=>bW Z (Ax Bw (Ob.cell (v:=(J b.ord)) (o6.st0 gq) Z))) ?_)))))
      have wb13:=Bc b.ord
      refine QL.call (v:=(J (Af b.ord))) call201 (fun wq gq=>(words_ wq b.ord).mono (fun _ _ hh=>⟨hh.1,hh.2 ▸ gq⟩)) Z Z Z (QL.go Z Z Z (fun wq gq=>bJ (r:=(Af b.ord) - 1) Z Z (Dl (by omega) (by omega))) (QL.go Z Z Z (fun wq gq=>Ex.and_ (r:=iand .i64 b.at_ ((Af b.ord) - 1)) Z Z Z) ?_))
      refine QL.br (p:=(iand .i64 b.at_ ((Af b.ord) - 1):Int) = (0:Int)) Z Z Z (fun r hr wq gq=>bP Z Z hr) (fun h14=>?_) (fun h14=>?_)
      ·refine QL.go Z Z Z (fun wq gq=>aZ (v:=bT) Z Z) (QL.go Z Z Z (fun wq gq=>aY (v:=bT) Z) (QL.nil ?_))
       intro w15 g16
       have z17:=g16.size
       refine aQ (aB (aO (v:=bT) (Ba Z Z) ?_))
       exact ⟨by congr 1; unfold mayB; simp [h7,h8,h9,h12,h14],(Ac (g5) g16)⟩
      ·refine QL.go Z Z Z (fun wq gq=>aZ (v:=bF) Z Z) (QL.go Z Z Z (fun wq gq=>aY (v:=bF) Z) (QL.nil ?_))
       intro w18 g19
       have z20:=g19.size
       refine aQ (aB (aO (v:=bF) (Ba Z Z) ?_))
       exact ⟨by congr 1; unfold mayB; simp [h7,h8,h9,h12,h14],(Ac (g5) g19)⟩
     ·refine QL.go Z Z Z (fun wq gq=>aZ (v:=bF) Z Z) (QL.go Z Z Z (fun wq gq=>aX (v:=bF) Z) (QL.out Z Z Z (QL.out Z Z Z (QL.out Z Z Z (QL.out Z Z Z (QL.out Z Z Z (QL.out Z Z Z (QL.out Z Z Z (QL.out Z Z Z (QL.go Z Z Z (fun wq gq=>bA (v:=bF) Z Z) ?_))))))))))
      refine QL.go Z Z Z (fun wq gq=>aY (v:=bF) Z) (QL.nil ?_)
      intro w21 g22
      have z23:=g22.size
      refine aQ (aB (aO (v:=bF) (Ba Z Z) ?_))
      exact ⟨by congr 1; unfold mayB; simp [h7,h8,h9,h12],(Ac (g5) g22)⟩
    ·refine QL.go Z Z Z (fun wq gq=>aZ (v:=bF) Z Z) (QL.go Z Z Z (fun wq gq=>aX (v:=bF) Z) (QL.out Z Z Z (QL.out Z Z Z (QL.out Z Z Z (QL.out Z Z Z (QL.out Z Z Z (QL.out Z Z Z (QL.out Z Z Z (QL.out Z Z Z (QL.out Z Z Z ?_))))))))))
     refine QL.go Z Z Z (fun wq gq=>bA (v:=bF) Z Z) (QL.go Z Z Z (fun wq gq=>aX (v:=bF) Z) (QL.out Z Z Z (QL.out Z Z Z (QL.out Z Z Z (QL.out Z Z Z (QL.out Z Z Z (QL.out Z Z Z (QL.out Z Z Z (QL.out Z Z Z (QL.go Z Z Z (fun wq gq=>bA (v:=bF) Z Z) ?_))))))))))
     refine QL.go Z Z Z (fun wq gq=>aY (v:=bF) Z) (QL.nil ?_)
     intro w24 g25
     have z26:=g25.size
     refine aQ (aB (aO (v:=bF) (Ba Z Z) ?_))
     exact ⟨by congr 1; unfold mayB; simp [h7,h8,h9],(Ac (g5) g25)⟩
   ·refine QL.go Z Z Z (fun wq gq=>aZ (v:=bF) Z Z) (QL.go Z Z Z (fun wq gq=>aX (v:=bF) Z) (QL.out Z Z Z (QL.out Z Z Z (QL.out Z Z Z (QL.go Z Z Z (fun wq gq=>bA (v:=bF) Z Z) (QL.go Z Z Z (fun wq gq=>aX (v:=bF) Z) (QL.out Z Z Z (QL.out Z Z Z (QL.out Z Z Z (QL.out Z Z Z ?_))))))))))
    refine QL.out Z Z Z (QL.out Z Z Z (QL.out Z Z Z (QL.out Z Z Z (QL.out Z Z Z (QL.go Z Z Z (fun wq gq=>bA (v:=bF) Z Z) (QL.go Z Z Z (fun wq gq=>aX (v:=bF) Z) (QL.out Z Z Z (QL.out Z Z Z (QL.out Z Z Z (QL.out Z Z Z ?_))))))))))
    refine QL.out Z Z Z (QL.out Z Z Z (QL.out Z Z Z (QL.out Z Z Z (QL.go Z Z Z (fun wq gq=>bA (v:=bF) Z Z) (QL.go Z Z Z (fun wq gq=>aY (v:=bF) Z) (QL.nil ?_))))))
    intro w27 g28
    have z29:=g28.size
    refine aQ (aB (aO (v:=bF) (Ba Z Z) ?_))
    exact ⟨by congr 1; unfold mayB; simp [h7,h8],(Ac (g5) g28)⟩
  ·refine QL.go Z Z Z (fun wq gq=>aX (v:=bF) Z) (QL.out Z Z Z (QL.out Z Z Z (QL.out Z Z Z (QL.out Z Z Z (QL.go Z Z Z (fun wq gq=>bA (v:=bF) Z Z) (QL.go Z Z Z (fun wq gq=>aX (v:=bF) Z) (QL.out Z Z Z (QL.out Z Z Z (QL.out Z Z Z (QL.go Z Z Z (fun wq gq=>bA (v:=bF) Z Z) ?_))))))))))
   refine QL.go Z Z Z (fun wq gq=>aX (v:=bF) Z) (QL.out Z Z Z (QL.out Z Z Z (QL.out Z Z Z (QL.out Z Z Z (QL.out Z Z Z (QL.out Z Z Z (QL.out Z Z Z (QL.out Z Z Z (QL.out Z Z Z (QL.go Z Z Z (fun wq gq=>bA (v:=bF) Z Z) ?_))))))))))
   refine QL.go Z Z Z (fun wq gq=>aX (v:=bF) Z) (QL.out Z Z Z (QL.out Z Z Z (QL.out Z Z Z (QL.out Z Z Z (QL.out Z Z Z (QL.out Z Z Z (QL.out Z Z Z (QL.out Z Z Z (QL.go Z Z Z (fun wq gq=>bA (v:=bF) Z Z) (QL.go Z Z Z (fun wq gq=>aY (v:=bF) Z) ?_))))))))))
   refine QL.nil ?_
   intro w30 g31
   have z32:=g31.size
   refine aQ (aB (aO (v:=bF) (Ba Z Z) ?_))
   exact ⟨by congr 1; unfold mayB; simp [h7],(Ac (g5) g31)⟩
set_option maxHeartbeats 400000 in
set_option maxRecDepth 20000 in
theorem twin_ (w:World) (b:Blk):Ret prog 250 [(.agg (b.cells).toArray)] w (fun v w'=>v = .agg (twinOf b).cells.toArray∧w.grownBy w' none):=by
  refine aP func250 Z Z Z ?_
  refine cT (bH (cs:=b.cells) Z Z Z ?_)
  intro w1 b2 hb3 hz4 g5 o6
  refine bG (cs:=[(J 0),(J 0)]) zeroValue133 Z Z Z ?_
  intro w7 b8 hb9 hz10 g11 o12
  refine cS (aD (cH 9 (fun wq=>World.grownBy w7 wq none) Tryz.mixed (by kernel_rfl) ⟨Z,rfl,rfl,Nat.le_refl _,fun _ _ _=>rfl⟩ (QL.go Z Z Z (fun wq gq=>Cs (b:=⟨b2,0,none⟩) Z Z) (QL.go Z Z Z (fun wq gq=>bW Z (Ax Bw (Ob.cell (v:=(J b.at_)) ((o6.st0 g11).st0 gq) Z))) (QL.go Z Z Z (fun wq gq=>Cg (b:=⟨b2,1,none⟩) Z Z) (QL.go Z Z Z (fun wq gq=>bW Z (Ax Bw (Ob.cell (v:=(J b.ord)) ((o6.st0 g11).st0 gq) Z))) ?_))))))
  have wb13:=Bc b.ord
  refine QL.call (v:=(J (Af b.ord))) call201 (fun wq gq=>(words_ wq b.ord).mono (fun _ _ hh=>⟨hh.1,hh.2 ▸ gq⟩)) Z Z Z (QL.go Z Z Z (fun wq gq=>Ex.xor_ (r:=ixor .i64 b.at_ (Af b.ord)) Z Z Z) (QL.go Z Z Z (fun wq gq=>Cg (b:=⟨b2,1,none⟩) Z Z) (QL.go Z Z Z (fun wq gq=>bW Z (Ax Bw (Ob.cell (v:=(J b.ord)) ((o6.st0 g11).st0 gq) Z))) (QL.go Z Z Z (fun wq gq=>bY (cs:=[(J (ixor .i64 b.at_ (Af b.ord))),(J b.ord)]) bd133 Z) (QL.nil ?_)))))
  intro w14 g15
  have z16:=g15.size
  have o17:=(o12.st0 g15)
  refine bE (vs:=[(J (ixor .i64 b.at_ (Af b.ord))),(J b.ord)]) (cs':=[(J (ixor .i64 b.at_ (Af b.ord))),(J b.ord)]) sizeOf133 o17 Z Z Z Z Z Z ?_
  intro w18 hz19 g20 o21
  refine cS (aB (aO (v:=(.agg ([(J (ixor .i64 b.at_ (Af b.ord))),(J b.ord)]).toArray)) (resv1 Z (cA Z (Aj (cs:=[(J (ixor .i64 b.at_ (Af b.ord))),(J b.ord)]) wh133 o21.cl))) ?_))
  exact ⟨Z,(Bb (Ac (Ac (g5) g11) g15) g20 (by omega))⟩
set_option maxHeartbeats 1000000 in
set_option maxRecDepth 20000 in
theorem bcheck_ (w:World) (o:Int) (B:Nat) (s:Sl) (l:List Blk) (hn:s.n = l.length) (hm:s.n ≤ 140737488351232) (hr:Rd w B 2 s.a (Cq l)) (hB:B ≤ w.heap.size):Ret prog 199 [(J o),(.slice s.a s.n s.c)] w (fun v w'=>v = .int .i64 (if buddyB o l then 0 else 1)∧w.grownBy w' none):=by
  refine aP func199 Z Z Z ?_
  refine cT (za (J 0) Z (cS (aD (cT (zm (J o) Z (aU call248 (region_ _ o) Z Z Z ?_))))))
  rintro _ _ ⟨rfl,rfl⟩
  rcases hb1:(Az o 3 8) with _ | _
  ·refine zg Z (bC (b:=false) Z) (cS (aE Z (cT (za (J 1) Z (cS (aB (aR (aO (v:=(J 1)) (Ba Z Z) ?_))))))))
   exact ⟨Bi (by unfold buddyB; simp [hb1]),(Bs _ _)⟩
  ·refine zg Z (bC (b:=true) Z) (cS (aF Z (aA (aQ (cT (zg Z (bY (cs:=[(J (-1)),(J 0)]) bd133 Z) (bG (cs:=[(J 0),(J 0)]) zeroValue133 Z Z Z ?_)))))))
   intro w2 b3 hb4 hz5 g6 o7
   refine za (J 0) Z (bE (vs:=[(J (-1)),(J 0)]) (cs':=[(J (-1)),(J 0)]) sizeOf133 o7 Z Z Z Z Z Z ?_)
   intro w8 hz9 g10 o11
   refine cS (aD (cT (zm (.slice s.a s.n s.c) Z (zg Z (bR underlying45 Z) (zm (J 0) Z (cS (aG ?_)))))))
   refine aK (fun t=>(Nat.ble 4 t && Nat.ble t 5) || Nat.beq t 8 || (Nat.ble 15 t && Nat.ble t 53)) (fun n ρ wl => ∃ (k:Nat) (e:Int) (lst:Blk),ρ 15 = (J (k:Int))∧ρ 5 = (J e)∧n = s.n - k∧World.grownBy w8 wl (some b3)∧k ≤ s.n∧buddyGo o l 0 ⟨-1,0⟩ = buddyGo o (l.drop k) e lst∧Ob wl b3 133 lst.cells) (s.n) ?aa0 ?bb0
   case aa0=>exact ⟨0,0,⟨-1,0⟩,rfl,rfl,rfl,Bs _ _,Nat.zero_le _,rfl,o11⟩
   case bb0 =>
    rintro n14 ρ0 w12 ho15 ⟨k,e,lst,hs0_15,hs0_5,hn0,g13,hk,hb,hlast⟩
    obtain ⟨j0,rfl⟩:=ho15.shape2 hs0_15 hs0_5
    clear ho15 hs0_15 hs0_5
    subst hn0
    have z16:=g13.size
    refine cT ?_
    refine zc (((k:Int):Int) < ((s.n:Nat):Int)) Z (fun r hr=>bL Z Z hr) (fun h17=>?_) (fun h17=>?_)
    ·refine cS (aD (aE Z (aA (aQ (aD (aG (cT ?_)))))))
     have r18:=(((hr.st0 g6).st1 g10 (by omega)).st1 g13 (by omega))
     obtain ⟨e19,he20⟩ : ∃ e,(l)[k]? = some e:=⟨_,List.getElem?_eq_getElem (by omega)⟩
     obtain ⟨ad21,hA22,hB23,c24⟩:=r18.at_ (Ca he20)
     have hl25:=Eng.lt_len (Ca he20)
     refine zg Z (bS (b:=ad21.add (k * 2)) (i:=k) underlying45 sizeOf133 (by rw [← hA22]; rfl) Z (by omega) (by omega) Z) (zg Z (bW Z (Aj (cs:=e19.cells) wh133 c24)) (bG (cs:=[(J 0),(J 0)]) zeroValue133 Z Z Z ?_))
     intro w26 b27 hb28 hz29 g30 o31
     refine bE (vs:=e19.cells) (cs':=e19.cells) sizeOf133 o31 Z Z Z Z Z Z ?_
     intro w32 hz33 g34 o35
     refine cS (aD (aD (aW (fun wq=>World.grownBy w32 wq none) Tryz.mixed (by kernel_rfl) ⟨Z,rfl,rfl,Nat.le_refl _,fun _ _ _=>rfl⟩ (QL.go Z Z Z (fun wq gq=>aX (v:=(J o)) Z) (QL.go Z Z Z (fun wq gq=>bW Z (Aj (cs:=e19.cells) wh133 (o35.st0 gq).cl)) (QL.call (v:=(.bool (mayB o e19))) call249 (fun wq gq=>(may_ wq o e19).mono (fun _ _ hh=>⟨hh.1,Ac gq hh.2⟩)) Z Z Z ?_))))))
     rcases hb36:(mayB o e19) with _ | _
     ·refine QL.go Z Z Z (fun wq gq=>bC (b:=false) Z) (QL.go Z Z Z (fun wq gq=>aX (v:=bT) Z) (QL.out Z Z Z (QL.out Z Z Z (QL.out Z Z Z (QL.out Z Z Z (QL.go Z Z Z (fun wq gq=>aZ (v:=bT) Z Z) (QL.go Z Z Z (fun wq gq=>aX (v:=bT) Z) (QL.out Z Z Z (QL.out Z Z Z (QL.out Z Z Z ?_))))))))))
      refine QL.out Z Z Z (QL.out Z Z Z (QL.out Z Z Z (QL.out Z Z Z (QL.out Z Z Z (QL.out Z Z Z (QL.out Z Z Z (QL.out Z Z Z (QL.out Z Z Z (QL.out Z Z Z (QL.out Z Z Z ?_))))))))))
      refine QL.out Z Z Z (QL.go Z Z Z (fun wq gq=>aZ (v:=bT) Z Z) (QL.nil ?_))
      intro w37 g38
      have z39:=g38.size
      refine aQ (aE Z (cT (za (J 1) Z (cS (aB (aR (inB.r (aR (aR (inB.r (aR (aO (v:=(J 1)) (Ba Z Z) ?_))))))))))))
      exact ⟨Bi (by unfold buddyB; rw [hb,Bp he20,buddyGo_no (by first | exact .inl (by assumption) | exact .inr (.inl (by assumption)) | exact .inr (.inr ⟨by assumption,blk_eq.2 (by assumption),by assumption⟩))]; simp),(Ac (Bb (Ac (Bb (Bb (g6) g10 (by omega)) g13 (by omega)) g30) g34 (by omega)) g38)⟩
     ·refine QL.go Z Z Z (fun wq gq=>bC (b:=true) Z) (QL.go Z Z Z (fun wq gq=>aX (v:=bF) Z) (QL.go Z Z Z (fun wq gq=>Cs (b:=⟨b27,0,none⟩) Z Z) (QL.go Z Z Z (fun wq gq=>bW Z (Ax Bw (Ob.cell (v:=(J e19.at_)) (o35.st0 gq) Z))) (QL.go Z Z Z (fun wq gq=>aX (v:=(J e)) Z) ?_))))
      refine QL.br (p:=(e19.at_:Int) < (e:Int)) Z Z Z (fun r hr wq gq=>bL Z Z hr) (fun h40=>?_) (fun h40=>?_)
      ·refine QL.go Z Z Z (fun wq gq=>bA (v:=bT) Z Z) (QL.go Z Z Z (fun wq gq=>aX (v:=bT) Z) (QL.out Z Z Z (QL.out Z Z Z (QL.out Z Z Z (QL.out Z Z Z (QL.out Z Z Z (QL.out Z Z Z (QL.out Z Z Z (QL.out Z Z Z (QL.out Z Z Z ?_))))))))))
       refine QL.out Z Z Z (QL.out Z Z Z (QL.out Z Z Z (QL.out Z Z Z (QL.out Z Z Z (QL.out Z Z Z (QL.go Z Z Z (fun wq gq=>aZ (v:=bT) Z Z) (QL.nil ?_)))))))
       intro w41 g42
       have z43:=g42.size
       refine aQ (aE Z (cT (za (J 1) Z (cS (aB (aR (inB.r (aR (aR (inB.r (aR (aO (v:=(J 1)) (Ba Z Z) ?_))))))))))))
       exact ⟨Bi (by unfold buddyB; rw [hb,Bp he20,buddyGo_no (by first | exact .inl (by assumption) | exact .inr (.inl (by assumption)) | exact .inr (.inr ⟨by assumption,blk_eq.2 (by assumption),by assumption⟩))]; simp),(Ac (Bb (Ac (Bb (Bb (g6) g10 (by omega)) g13 (by omega)) g30) g34 (by omega)) g42)⟩
      ·refine QL.go Z Z Z (fun wq gq=>bA (v:=bF) Z Z) (QL.go Z Z Z (fun wq gq=>aX (v:=bF) Z) (QL.go Z Z Z (fun wq gq=>Cg (b:=⟨b27,1,none⟩) Z Z) (QL.go Z Z Z (fun wq gq=>bW Z (Ax Bw (Ob.cell (v:=(J e19.ord)) (o35.st0 gq) Z))) (QL.go Z Z Z (fun wq gq=>aX (v:=(J o)) Z) ?_))))
       refine QL.br (p:=(e19.ord:Int) < (o:Int)) Z Z Z (fun r hr wq gq=>bL Z Z hr) (fun h44=>?_) (fun h44=>?_)
       ·refine QL.go Z Z Z (fun wq gq=>aX (v:=bT) Z) (QL.go Z Z Z (fun wq gq=>bW Z (Aj (cs:=lst.cells) wh133 (((hlast.st0 g30).st1 g34 (by omega)).st0 gq).cl)) (QL.go Z Z Z (fun wq gq=>bW Z (Aj (cs:=e19.cells) wh133 (o35.st0 gq).cl)) (QL.call (v:=(.agg ((twinOf e19).cells).toArray)) call250 (fun wq gq=>(twin_ wq e19).mono (fun _ _ hh=>⟨hh.1,Ac gq hh.2⟩)) Z Z Z ?_)))
        refine QL.br (p:=(lst.at_:Int) = ((twinOf e19).at_:Int)∧(lst.ord:Int) = ((twinOf e19).ord:Int)) Z Z Z (fun r hr wq gq=>Ex.eqS (xs:=lst.cells) (ys:=(twinOf e19).cells) eqGuardType133 (eqT133 hr) Z Z) (fun h45=>?_) (fun h45=>?_)
        ·refine QL.go Z Z Z (fun wq gq=>aZ (v:=bT) Z Z) (QL.go Z Z Z (fun wq gq=>aX (v:=bT) Z) (QL.go Z Z Z (fun wq gq=>Cs (b:=⟨b3,0,none⟩) Z Z) (QL.go Z Z Z (fun wq gq=>bW Z (Ax Bw (Ob.cell (v:=(J lst.at_)) (((hlast.st0 g30).st1 g34 (by omega)).st0 gq) Z))) ?_)))
         refine QL.br (p:=(0:Int) ≤ (lst.at_:Int)) Z Z Z (fun r hr wq gq=>bO Z Z hr) (fun h46=>?_) (fun h46=>?_)
         ·refine QL.go Z Z Z (fun wq gq=>aZ (v:=bT) Z Z) (QL.go Z Z Z (fun wq gq=>bA (v:=bT) Z Z) (QL.nil ?_))
          intro w47 g48
          have z49:=g48.size
          refine aQ (aE Z (cT (za (J 1) Z (cS (aB (aR (inB.r (aR (aR (inB.r (aR (aO (v:=(J 1)) (Ba Z Z) ?_))))))))))))
          exact ⟨Bi (by unfold buddyB; rw [hb,Bp he20,buddyGo_no (by first | exact .inl (by assumption) | exact .inr (.inl (by assumption)) | exact .inr (.inr ⟨by assumption,blk_eq.2 (by assumption),by assumption⟩))]; simp),(Ac (Bb (Ac (Bb (Bb (g6) g10 (by omega)) g13 (by omega)) g30) g34 (by omega)) g48)⟩
         ·refine QL.go Z Z Z (fun wq gq=>aZ (v:=bF) Z Z) (QL.go Z Z Z (fun wq gq=>bA (v:=bF) Z Z) (QL.nil ?_))
          intro w50 g51
          have z52:=g51.size
          refine aQ (aF Z (aA (aQ (cH 8 (fun wq=>World.grownBy w50 wq none) Tryz.mixed (by kernel_rfl) ⟨Z,rfl,rfl,Nat.le_refl _,fun _ _ _=>rfl⟩ (QL.go Z Z Z (fun wq gq=>Cs (b:=⟨b27,0,none⟩) Z Z) (QL.go Z Z Z (fun wq gq=>bW Z (Ax Bw (Ob.cell (v:=(J e19.at_)) ((o35.st0 g51).st0 gq) Z))) (QL.go Z Z Z (fun wq gq=>Cg (b:=⟨b27,1,none⟩) Z Z) (QL.go Z Z Z (fun wq gq=>bW Z (Ax Bw (Ob.cell (v:=(J e19.ord)) ((o35.st0 g51).st0 gq) Z))) ?_))))))))
          have wb53:=Bc e19.ord
          refine QL.call (v:=(J (Af e19.ord))) call201 (fun wq gq=>(words_ wq e19.ord).mono (fun _ _ hh=>⟨hh.1,hh.2 ▸ gq⟩)) Z Z Z (QL.go Z Z Z (fun wq gq=>bI (r:=e19.at_ + (Af e19.ord)) Z Z (Dl (by have h1:=mayB_bd (by assumption:mayB o e19 = true); have h2:=Bc o; have h3:=Bc e19.ord; omega) (by have h1:=mayB_bd (by assumption:mayB o e19 = true); have h2:=Bc o; have h3:=Bc e19.ord; omega))) (QL.go Z Z Z (fun wq gq=>bW Z (Aj (cs:=e19.cells) wh133 ((o35.st0 g51).st0 gq).cl)) (QL.go Z Z Z (fun wq gq=>aY (v:=(J (e19.at_ + (Af e19.ord)))) Z) (QL.nil ?_))))
          intro w54 g55
          have z56:=g55.size
          have o57:=((((hlast.st0 g30).st1 g34 (by omega)).st0 g51).st0 g55)
          refine bE (vs:=e19.cells) (cs':=e19.cells) sizeOf133 o57 Z Z Z Z Z Z ?_
          intro w58 hz59 g60 o61
          refine aM (inB.n (aQ (aL (zg Z (bI (r:=(k:Int) + 1) Z Z (Dl (by omega) (by omega))) (zm (J ((k:Int) + 1)) Z (cS ?_))))))
          refine ⟨(by repeat (first | exact aJ _ _ | exact aH _ _ | refine aI ?_ Z _)),_,?_,⟨k + 1,_,e19,rfl,rfl,rfl,(Ae (Ae (Ae (Ah (Ae (g13) (An g30 _)) g34 (by omega)) (An g51 _)) (An g55 _)) g60),by omega,by rw [hb,Bp he20]; exact buddyGo_yes (by assumption) (by assumption) (by rw [blk_eq]; intros; first | contradiction | assumption),o61⟩⟩
          omega
        ·refine QL.go Z Z Z (fun wq gq=>aZ (v:=bF) Z Z) (QL.go Z Z Z (fun wq gq=>aX (v:=bF) Z) (QL.out Z Z Z (QL.out Z Z Z (QL.out Z Z Z (QL.go Z Z Z (fun wq gq=>bA (v:=bF) Z Z) (QL.go Z Z Z (fun wq gq=>bA (v:=bF) Z Z) (QL.nil ?_)))))))
         intro w62 g63
         have z65:=g63.size
         refine aQ (aF Z (aA (aQ (cH 8 (fun wq=>World.grownBy w62 wq none) Tryz.mixed (by kernel_rfl) ⟨Z,rfl,rfl,Nat.le_refl _,fun _ _ _=>rfl⟩ (QL.go Z Z Z (fun wq gq=>Cs (b:=⟨b27,0,none⟩) Z Z) (QL.go Z Z Z (fun wq gq=>bW Z (Ax Bw (Ob.cell (v:=(J e19.at_)) ((o35.st0 g63).st0 gq) Z))) (QL.go Z Z Z (fun wq gq=>Cg (b:=⟨b27,1,none⟩) Z Z) (QL.go Z Z Z (fun wq gq=>bW Z (Ax Bw (Ob.cell (v:=(J e19.ord)) ((o35.st0 g63).st0 gq) Z))) ?_))))))))
         have wb66:=Bc e19.ord
         refine QL.call (v:=(J (Af e19.ord))) call201 (fun wq gq=>(words_ wq e19.ord).mono (fun _ _ hh=>⟨hh.1,hh.2 ▸ gq⟩)) Z Z Z (QL.go Z Z Z (fun wq gq=>bI (r:=e19.at_ + (Af e19.ord)) Z Z (Dl (by have h1:=mayB_bd (by assumption:mayB o e19 = true); have h2:=Bc o; have h3:=Bc e19.ord; omega) (by have h1:=mayB_bd (by assumption:mayB o e19 = true); have h2:=Bc o; have h3:=Bc e19.ord; omega))) (QL.go Z Z Z (fun wq gq=>bW Z (Aj (cs:=e19.cells) wh133 ((o35.st0 g63).st0 gq).cl)) (QL.go Z Z Z (fun wq gq=>aY (v:=(J (e19.at_ + (Af e19.ord)))) Z) (QL.nil ?_))))
         intro w67 g68
         have z69:=g68.size
         have o70:=((((hlast.st0 g30).st1 g34 (by omega)).st0 g63).st0 g68)
         refine bE (vs:=e19.cells) (cs':=e19.cells) sizeOf133 o70 Z Z Z Z Z Z ?_
         intro w71 hz72 g73 o74
         refine aM (inB.n (aQ (aL (zg Z (bI (r:=(k:Int) + 1) Z Z (Dl (by omega) (by omega))) (zm (J ((k:Int) + 1)) Z (cS ?_))))))
         refine ⟨(by repeat (first | exact aJ _ _ | exact aH _ _ | refine aI ?_ Z _)),_,?_,⟨k + 1,_,e19,rfl,rfl,rfl,(Ae (Ae (Ae (Ah (Ae (g13) (An g30 _)) g34 (by omega)) (An g63 _)) (An g68 _)) g73),by omega,by rw [hb,Bp he20]; exact buddyGo_yes (by assumption) (by assumption) (by rw [blk_eq]; intros; first | contradiction | assumption),o74⟩⟩
         omega
       ·refine QL.go Z Z Z (fun wq gq=>aX (v:=bF) Z) (QL.out Z Z Z (QL.out Z Z Z (QL.out Z Z Z (QL.out Z Z Z (QL.go Z Z Z (fun wq gq=>bA (v:=bF) Z Z) (QL.go Z Z Z (fun wq gq=>aX (v:=bF) Z) (QL.out Z Z Z (QL.out Z Z Z (QL.out Z Z Z (QL.go Z Z Z (fun wq gq=>bA (v:=bF) Z Z) ?_))))))))))
        refine QL.go Z Z Z (fun wq gq=>bA (v:=bF) Z Z) (QL.nil ?_)
        intro w75 g76
        have z77:=g76.size
        refine aQ (aF Z (aA (aQ (cH 8 (fun wq=>World.grownBy w75 wq none) Tryz.mixed (by kernel_rfl) ⟨Z,rfl,rfl,Nat.le_refl _,fun _ _ _=>rfl⟩ (QL.go Z Z Z (fun wq gq=>Cs (b:=⟨b27,0,none⟩) Z Z) (QL.go Z Z Z (fun wq gq=>bW Z (Ax Bw (Ob.cell (v:=(J e19.at_)) ((o35.st0 g76).st0 gq) Z))) (QL.go Z Z Z (fun wq gq=>Cg (b:=⟨b27,1,none⟩) Z Z) (QL.go Z Z Z (fun wq gq=>bW Z (Ax Bw (Ob.cell (v:=(J e19.ord)) ((o35.st0 g76).st0 gq) Z))) ?_))))))))
        have wb78:=Bc e19.ord
        refine QL.call (v:=(J (Af e19.ord))) call201 (fun wq gq=>(words_ wq e19.ord).mono (fun _ _ hh=>⟨hh.1,hh.2 ▸ gq⟩)) Z Z Z (QL.go Z Z Z (fun wq gq=>bI (r:=e19.at_ + (Af e19.ord)) Z Z (Dl (by have h1:=mayB_bd (by assumption:mayB o e19 = true); have h2:=Bc o; have h3:=Bc e19.ord; omega) (by have h1:=mayB_bd (by assumption:mayB o e19 = true); have h2:=Bc o; have h3:=Bc e19.ord; omega))) (QL.go Z Z Z (fun wq gq=>bW Z (Aj (cs:=e19.cells) wh133 ((o35.st0 g76).st0 gq).cl)) (QL.go Z Z Z (fun wq gq=>aY (v:=(J (e19.at_ + (Af e19.ord)))) Z) (QL.nil ?_))))
        intro w79 g80
        have z81:=g80.size
        have o82:=((((hlast.st0 g30).st1 g34 (by omega)).st0 g76).st0 g80)
        refine bE (vs:=e19.cells) (cs':=e19.cells) sizeOf133 o82 Z Z Z Z Z Z ?_
        intro w83 hz84 g85 o86
        refine aM (inB.n (aQ (aL (zg Z (bI (r:=(k:Int) + 1) Z Z (Dl (by omega) (by omega))) (zm (J ((k:Int) + 1)) Z (cS ?_))))))
        refine ⟨(by repeat (first | exact aJ _ _ | exact aH _ _ | refine aI ?_ Z _)),_,?_,⟨k + 1,_,e19,rfl,rfl,rfl,(Ae (Ae (Ae (Ah (Ae (g13) (An g30 _)) g34 (by omega)) (An g76 _)) (An g80 _)) g85),by omega,by rw [hb,Bp he20]; exact buddyGo_yes (by assumption) (by assumption) (by rw [blk_eq]; intros; first | contradiction | assumption),o86⟩⟩
        omega
    ·refine cS (aD (aF Z (aC (aS (aS (Bo (aQ (cT (za (J 0) Z (cS (aB (aO (v:=(J 0)) (Ba Z Z) ?_))))))))))))
     have e0:k = s.n:=by omega
     exact ⟨Bi (by unfold buddyB; rw [hb,List.drop_eq_nil_of_le (by omega)]; simp [buddyGo,hb1]),(Bb (Bb (g6) g10 (by omega)) g13 (by omega))⟩
set_option maxHeartbeats 400000 in
set_option maxRecDepth 20000 in
theorem all_yes (w:World) (o:Int) (hw:Az o 3 8 = true):Ret prog 217 [(J o)] w (fun v w' => ∃ b:Nat,v = .tuple #[.slice (some ⟨b,0,none⟩) 1 1,.int .i64 0]∧w.grownBy w' none∧w.heap.size ≤ b∧Ob w' b 133 [.int .i64 0,.int .i64 o]):=by
  refine aP func217 Z Z Z ?_
  refine cT (za (.slice none 0 0) Z (za (J 0) Z (cS (aD (cT (zm (J o) Z (aU call248 (region_ _ o) Z Z Z ?_)))))))
  rintro _ _ ⟨rfl,rfl⟩
  rcases hb1:(Az o 3 8) with _ | _
  ·refine zg Z (bC (b:=false) Z) (cS (aE Z (cT (za (.slice none 0 0) Z (za (J 1) Z (cS (aB (aR (aO (v:=(.tuple #[(.slice none 0 0),(J 1)])) (res2 Z Z Z) ?_)))))))))
   exact absurd hw (by rw [hb1]; decide)
  ·refine zg Z (bC (b:=true) Z) (cS (aF Z (aA (aQ (cT (zm (J o) Z (zg Z (bY (cs:=[(J 0),(J o)]) bd133 Z) (cF (cs:=[(J 0),(J o)]) underlying45 sizeOf133 ze45 Z Z Z (by decide) Z Z Z ?_))))))))
   intro w2 b3 hb4 hz5 g6 o7
   refine za (.slice (some ⟨b3,0,none⟩) 1 1) Z (za (J 0) Z (cS (aB (aO (v:=(.tuple #[(.slice (some ⟨b3,0,none⟩) 1 1),(J 0)])) (res2 Z Z Z) ?_))))
   exact ⟨_,rfl,(g6),by omega,o7⟩
set_option maxHeartbeats 400000 in
set_option maxRecDepth 20000 in
theorem all_no (w:World) (o:Int) (hw:Az o 3 8 = false):Ret prog 217 [(J o)] w (fun v w'=>v = .tuple #[.slice none 0 0,.int .i64 1]∧w.grownBy w' none):=by
  refine aP func217 Z Z Z ?_
  refine cT (za (.slice none 0 0) Z (za (J 0) Z (cS (aD (cT (zm (J o) Z (aU call248 (region_ _ o) Z Z Z ?_)))))))
  rintro _ _ ⟨rfl,rfl⟩
  rcases hb1:(Az o 3 8) with _ | _
  ·refine zg Z (bC (b:=false) Z) (cS (aE Z (cT (za (.slice none 0 0) Z (za (J 1) Z (cS (aB (aR (aO (v:=(.tuple #[(.slice none 0 0),(J 1)])) (res2 Z Z Z) ?_)))))))))
   exact ⟨Z,(Bs _ _)⟩
  ·refine zg Z (bC (b:=true) Z) (cS (aF Z (aA (aQ (cT (zm (J o) Z (zg Z (bY (cs:=[(J 0),(J o)]) bd133 Z) (cF (cs:=[(J 0),(J o)]) underlying45 sizeOf133 ze45 Z Z Z (by decide) Z Z Z ?_))))))))
   intro w2 b3 hb4 hz5 g6 o7
   refine za (.slice (some ⟨b3,0,none⟩) 1 1) Z (za (J 0) Z (cS (aB (aO (v:=(.tuple #[(.slice (some ⟨b3,0,none⟩) 1 1),(J 0)])) (res2 Z Z Z) ?_))))
   exact absurd hw (by rw [hb1]; decide)
set_option maxHeartbeats 400000 in
set_option maxRecDepth 20000 in
theorem need_ (w:World) (wo li:Int) (h1 : -9223372036854775808 ≤ wo∧wo ≤ 9223372036854775807) (h2 : -9223372036854775808 ≤ li∧li ≤ 9223372036854775807):Ret prog 203 [(J wo),(J li)] w (fun v w'=>v = .int .i64 (By wo li)∧w.grownBy w' none):=by
  refine aP func203 Z Z Z ?_
  refine cT (za (J 0) Z (cS (aD (cT (zm (J wo) Z (aU call200 (within_heap _ wo 0 32) Z Z Z ?_))))))
  rintro _ _ ⟨rfl,rfl⟩
  rcases hb2:(Az wo 0 32) with _ | _
  ·refine zg Z (bC (b:=false) Z) (zm bT Z (zo Z (zo Z (zo Z (zT bT Z (cS (aE Z (cT (za (J (-1)) Z (cS (aB (aR (aO (v:=(J (-1))) (Ba Z Z) ?_)))))))))))))
   exact ⟨Bi (by unfold By; rw [if_neg (by first | (have:=withinB_f hb2; omega))]),(Bs _ _)⟩
  ·have hw1:=Bh hb2
   refine zg Z (bC (b:=true) Z) (zm bF Z (zm (J li) Z (aU call200 (within_heap _ li 0 16) Z Z Z ?_)))
   rintro _ _ ⟨rfl,rfl⟩
   rcases hb4:(Az li 0 16) with _ | _
   ·refine zg Z (bC (b:=false) Z) (zF bT Z (cS (aE Z (cT (za (J (-1)) Z (cS (aB (aR (aO (v:=(J (-1))) (Ba Z Z) ?_)))))))))
    exact ⟨Bi (by unfold By; rw [if_neg (by first | (have:=withinB_f hb4; omega))]),(Bs _ _)⟩
   ·have hw3:=Bh hb4
    refine zg Z (bC (b:=true) Z) (zF bF Z (cS (aF Z (aA (aQ (cT (za (J 0) Z (cS (aD (aG ?_))))))))))
    refine aK (fun t=>Nat.beq t 5 || (Nat.ble 14 t && Nat.ble t 21)) (fun n ρ wl => ∃ (k:Nat),ρ 5 = (J (k:Int))∧n = 7 - k∧World.grownBy w wl none∧k ≤ 6 ∧ ∀ j:Nat,j < k → Af (j:Int) ≤ wo + li) (7) ?aa0 ?bb0
    case aa0=>exact ⟨0,rfl,rfl,Bs _ _,by omega,fun j hj=>by omega⟩
    case bb0 =>
     rintro n7 ρ0 w5 ho8 ⟨k,hs0_5,hn0,g6,hk,hj⟩
     obtain ⟨j0,rfl⟩:=ho8.shape1 hs0_5
     clear ho8 hs0_5
     subst hn0
     have z9:=g6.size
     refine aD (cT (zm (J (k:Int)) Z ?_))
     have wb10:=Bc (k:Int)
     refine aU call201 (words_ _ (k:Int)) Z Z Z ?_
     rintro _ _ ⟨rfl,rfl⟩
     refine zm (J wo) Z (zm (J li) Z (zg Z (bI (r:=wo + li) Z Z (Dl (by omega) (by omega))) ?_))
     refine zc ((Af (k:Int):Int) ≤ (wo + li:Int)) Z (fun r hr=>bM Z Z hr) (fun h11=>?_) (fun h11=>?_)
     ·refine cS (aE Z (aA (aQ (aG (aL (zm (J (k:Int)) Z (zg Z (bI (r:=(k:Int) + 1) Z Z (Dl (by omega) (by omega))) (za (J ((k:Int) + 1)) Z (aM (inB.n (aQ ?_)))))))))))
      refine ⟨(by repeat (first | exact aJ _ _ | exact aH _ _ | refine aI ?_ Z _)),_,?_,⟨k + 1,rfl,rfl,(g6),need_round hk hj (by omega) (by omega)⟩⟩
      omega
     ·refine cS (aF Z (aC (aS (aS (Bo (aQ (cT (zm (J (k:Int)) Z (za (J (k:Int)) Z (cS (aB (aO (v:=(J (k:Int))) (Ba Z Z) ?_))))))))))))
      have hnn:((wo + li).toNat:Int) = wo + li:=by omega
      exact ⟨Bi (by unfold By; rw [if_pos (by omega),needN_of (n:=(wo + li).toNat) (k:=k) (by omega) hk (fun j h=>by rw [hnn]; exact hj j h) (by rw [hnn]; omega)]),(g6)⟩
end Go.Proofs.YtfokljnhllflbaaGreat
namespace Go.Proofs.YtfokljnhllflbaaGreat
open Go Go.Eng Go.RowKit Go.Proofs.Tryz
set_option maxHeartbeats 400000 in
set_option maxRecDepth 20000 in
theorem peek_yes (w:World) (B rb n c:Nat) (bs:List UInt8) (A:Option Addr) (hq:Rdr w B rb bs A n c) (m:Nat) (hm8:m ≤ 8) (hle:m ≤ bs.length):Ret prog 266 [(.pointer (some ⟨rb,0,none⟩)),(J (m:Int))] w (fun v w'=>v = .tuple #[.int .u64 ((be (bs.take m):Nat):Int),.int .i64 0]∧w.grownBy w' none):=by
  have hn:=hq.len
  have hc:=hq.cap
  have hm:=hq.max
  have hlt:=hq.lt
  have hsr:=hq.ob.lt
  refine aP func266 Z Z Z ?_
  refine cT (za (.int .u64 0) Z (za (J 0) Z (cS (aD (aG (cT (zm (.pointer (some ⟨rb,0,none⟩)) Z (zg Z (Ex.eqPn underlying200 Z Z) (za bF Z (cS (aF Z (cT (zm (.pointer (some ⟨rb,0,none⟩)) Z (zg Z (bX Z) (zl (.slice A n c) lo256 hq.ob Z ?_)))))))))))))))
  refine zg Z (bR underlying256 Z) (zm (J (m:Int)) Z (zg Z (bL (r:=false) Z Z (decide_eq_false (by omega))) (za bF Z (cS (aF Z (aA (inB.n (aQ (cT (za (.int .u64 0) Z (cS (aD (cT (zm (.pointer (some ⟨rb,0,none⟩)) Z (zg Z (bX Z) (zl (.slice A n c) lo256 hq.ob Z (zm (J (m:Int)) Z ?_)))))))))))))))))
  refine zg Z (bU (i:=m) underlying256 sizeOf5 Z Z Z (by omega)) (zg Z (bR underlying256 Z) (zm (J 0) Z (cS (aG ?_))))
  refine aK (fun t=>Nat.beq t 6 || Nat.beq t 8 || (Nat.ble 25 t && Nat.ble t 34)) (fun n ρ wl => ∃ k:Nat,ρ 6 = (.int .u64 ((be (bs.take k):Nat):Int))∧ρ 25 = (J (k:Int))∧n = m - k∧World.grownBy w wl none∧k ≤ m) (m) ?aa0 ?bb0
  case aa0=>exact ⟨0,rfl,rfl,rfl,Bs _ _,Nat.zero_le _⟩
  case bb0 =>
   rintro n3 ρ0 w1 ho4 ⟨k,hs0_6,hs0_25,hn0,g2,hk⟩
   obtain ⟨j0,rfl⟩:=ho4.shape2 hs0_6 hs0_25
   clear ho4 hs0_6 hs0_25
   subst hn0
   have z5:=g2.size
   refine cT ?_
   refine zc (((k:Int):Int) < ((m:Nat):Int)) Z (fun r hr=>bL Z Z hr) (fun h6=>?_) (fun h6=>?_)
   ·refine cS (aD (aE Z (aA (aQ (aD (aG (cT ?_)))))))
    have r7:=(hq.st0 g2)
    obtain ⟨e8,he9⟩ : ∃ e,(bs)[k]? = some e:=⟨_,List.getElem?_eq_getElem (by omega)⟩
    obtain ⟨ad10,hA11,hB12,c13⟩:=r7.row.at_ (bcs_get he9)
    have hl14:=Eng.lt_len (bcs_get he9)
    refine zg Z (bS (b:=ad10.add (k * 1)) (i:=k) underlying256 sizeOf5 (by rw [← hA11]; rfl) Z (by omega) (by omega) Z) (zg Z (bW Z (Ax lo5 (Cl.at_ (v:=(.int .u8 (e8.toNat:Int))) c13 (i:=0) Z))) (za (.int .u8 (e8.toNat:Int)) Z (cS (aL (zm (.int .u64 ((be (bs.take k):Nat):Int)) Z ?_)))))
    have hu:=be_lt7 (l:=bs.take k) (by rw [List.length_take]; omega)
    refine zg Z (Ex.shl (r:=((be (bs.take k) * 256:Nat):Int)) Z Z (by decide) (shl8 _ hu)) (zm (.int .u8 (e8.toNat:Int)) Z ?_)
    have hv:=e8.toNat_lt
    refine zg Z (cD (r:=(e8.toNat:Int)) underlying5 underlying234 Z (IntWalk.u64_in _ (by omega))) (zg Z (Ex.or_ (r:=((be (bs.take k) * 256 + e8.toNat:Nat):Int)) Z Z (or8 _ _ hu)) (za (.int .u64 ((be (bs.take k) * 256 + e8.toNat:Nat):Int)) Z (aM (inB.n (aQ (aL (zg Z (bI (r:=(k:Int) + 1) Z Z (Dl (by omega) (by omega))) (zm (J ((k:Int) + 1)) Z (cS ?_)))))))))
    refine ⟨(by repeat (first | exact aJ _ _ | exact aH _ _ | refine aI ?_ Z _)),_,?_,⟨k + 1,(Bi (by rw [be_take he9])),rfl,rfl,(g2),by omega⟩⟩
    omega
   ·refine cS (aD (aF Z (aC (aS (aS (Bo (aQ (cT (zm (.int .u64 ((be (bs.take k):Nat):Int)) Z (za (.int .u64 ((be (bs.take k):Nat):Int)) Z (za (J 0) Z (cS (aB (aO (v:=(.tuple #[(.int .u64 ((be (bs.take k):Nat):Int)),(J 0)])) (res2 Z Z Z) ?_))))))))))))))
    have e:k = m:=by omega
    subst e
    exact ⟨Z,(g2)⟩
set_option maxHeartbeats 400000 in
set_option maxRecDepth 20000 in
theorem peek_no (w:World) (B rb n c:Nat) (bs:List UInt8) (A:Option Addr) (hq:Rdr w B rb bs A n c) (m:Nat) (hlt:bs.length < m):Ret prog 266 [(.pointer (some ⟨rb,0,none⟩)),(J (m:Int))] w (fun v w'=>v = .tuple #[.int .u64 0,.int .i64 10]∧w.grownBy w' none):=by
  have hn:=hq.len
  have hc:=hq.cap
  have hm:=hq.max
  have hlt:=hq.lt
  have hsr:=hq.ob.lt
  refine aP func266 Z Z Z ?_
  refine cT (za (.int .u64 0) Z (za (J 0) Z (cS (aD (aG (cT (zm (.pointer (some ⟨rb,0,none⟩)) Z (zg Z (Ex.eqPn underlying200 Z Z) (za bF Z (cS (aF Z (cT (zm (.pointer (some ⟨rb,0,none⟩)) Z (zg Z (bX Z) (zl (.slice A n c) lo256 hq.ob Z ?_)))))))))))))))
  refine zg Z (bR underlying256 Z) (zm (J (m:Int)) Z (zg Z (bL (r:=true) Z Z (decide_eq_true (by omega))) (za bT Z (cS (aE Z (cT (za (.int .u64 0) Z (za (J 10) Z (cS (aB (inB.r (aR (aO (v:=(.tuple #[(.int .u64 0),(J 10)])) (res2 Z Z Z) ?_)))))))))))))
  exact ⟨Z,(Bs _ _)⟩
set_option maxHeartbeats 400000 in
set_option maxRecDepth 20000 in
theorem count_yes (w:World) (B rb n c:Nat) (bs:List UInt8) (A:Option Addr) (hq:Rdr w B rb bs A n c) (hl:4 ≤ bs.length) (hle:be (bs.take 4) ≤ 2147483647):Ret prog 239 [(.pointer (some ⟨rb,0,none⟩))] w (fun v w'=>v = .tuple #[.int .i64 ((be (bs.take 4):Nat):Int),.int .i64 0]∧w.grownBy w' none):=by
  have hn:=hq.len
  have hc:=hq.cap
  have hm:=hq.max
  have hlt:=hq.lt
  have hsr:=hq.ob.lt
  refine aP func239 Z Z Z ?_
  refine cT (za (J 0) Z (za (J 0) Z (cS (cT (zm (.pointer (some ⟨rb,0,none⟩)) Z (aU call266 (peek_yes _ _ _ _ _ _ _ hq 4 (by omega) (by omega)) Z Z Z ?_))))))
  rintro _ w1 ⟨rfl,g2⟩
  have z3:=g2.size
  refine zm (.tuple #[(.int .u64 ((be (bs.take 4):Nat):Int)),(J 0)]) Z (zx (.int .u64 ((be (bs.take 4):Nat):Int)) Z (zx (J 0) Z (za (.int .u64 ((be (bs.take 4):Nat):Int)) Z (za (J 0) Z (cS (aD (cT (zm (J 0) Z (zg Z (bP (r:=true) Z Z (by decide)) (zm bT Z (zm (.int .u64 ((be (bs.take 4):Nat):Int)) Z (zg Z (bN (r:=false) Z Z (decide_eq_false (by omega))) ?_))))))))))))
  refine zT bF Z (cS (aF Z (aA (aQ (cT (zm (.int .u64 ((be (bs.take 4):Nat):Int)) Z (zg Z (cD (r:=((be (bs.take 4):Nat):Int)) underlying234 underlying3 Z (Dl (by omega) (by omega))) (zm (J 0) Z (za (J ((be (bs.take 4):Nat):Int)) Z (za (J 0) Z (cS (aB (aO (v:=(.tuple #[(J ((be (bs.take 4):Nat):Int)),(J 0)])) (res2 Z Z Z) ?_)))))))))))))
  exact ⟨Z,(g2)⟩
set_option maxHeartbeats 400000 in
set_option maxRecDepth 20000 in
theorem count_big (w:World) (B rb n c:Nat) (bs:List UInt8) (A:Option Addr) (hq:Rdr w B rb bs A n c) (hl:4 ≤ bs.length) (hle:2147483647 < be (bs.take 4)):Ret prog 239 [(.pointer (some ⟨rb,0,none⟩))] w (fun v w'=>v = .tuple #[.int .i64 0,.int .i64 11]∧w.grownBy w' none):=by
  have hn:=hq.len
  have hc:=hq.cap
  have hm:=hq.max
  have hlt:=hq.lt
  have hsr:=hq.ob.lt
  refine aP func239 Z Z Z ?_
  refine cT (za (J 0) Z (za (J 0) Z (cS (cT (zm (.pointer (some ⟨rb,0,none⟩)) Z (aU call266 (peek_yes _ _ _ _ _ _ _ hq 4 (by omega) (by omega)) Z Z Z ?_))))))
  rintro _ w1 ⟨rfl,g2⟩
  have z3:=g2.size
  refine zm (.tuple #[(.int .u64 ((be (bs.take 4):Nat):Int)),(J 0)]) Z (zx (.int .u64 ((be (bs.take 4):Nat):Int)) Z (zx (J 0) Z (za (.int .u64 ((be (bs.take 4):Nat):Int)) Z (za (J 0) Z (cS (aD (cT (zm (J 0) Z (zg Z (bP (r:=true) Z Z (by decide)) (zm bT Z (zm (.int .u64 ((be (bs.take 4):Nat):Int)) Z (zg Z (bN (r:=true) Z Z (decide_eq_true (by omega))) ?_))))))))))))
  refine zT bT Z (cS (aE Z (cT (za (J 0) Z (za (J 11) Z (cS (aB (aR (aO (v:=(.tuple #[(J 0),(J 11)])) (res2 Z Z Z) ?_)))))))))
  exact ⟨Z,(g2)⟩
set_option maxHeartbeats 400000 in
set_option maxRecDepth 20000 in
theorem count_short (w:World) (B rb n c:Nat) (bs:List UInt8) (A:Option Addr) (hq:Rdr w B rb bs A n c) (hl:bs.length < 4):Ret prog 239 [(.pointer (some ⟨rb,0,none⟩))] w (fun v w'=>v = .tuple #[.int .i64 0,.int .i64 10]∧w.grownBy w' none):=by
  have hn:=hq.len
  have hc:=hq.cap
  have hm:=hq.max
  have hlt:=hq.lt
  have hsr:=hq.ob.lt
  refine aP func239 Z Z Z ?_
  refine cT (za (J 0) Z (za (J 0) Z (cS (cT (zm (.pointer (some ⟨rb,0,none⟩)) Z (aU call266 (peek_no _ _ _ _ _ _ _ hq 4 (by omega)) Z Z Z ?_))))))
  rintro _ w1 ⟨rfl,g2⟩
  have z3:=g2.size
  refine zm (.tuple #[(.int .u64 0),(J 10)]) Z (zx (.int .u64 0) Z (zx (J 10) Z (za (.int .u64 0) Z (za (J 10) Z (cS (aD (cT (zm (J 10) Z (zg Z (bP (r:=false) Z Z (by decide)) (zm bF Z (zo Z (zo Z ?_))))))))))))
  refine zF bF Z (cS (aF Z (aA (aQ (cT (zm (.int .u64 0) Z (zg Z (cD (r:=0) underlying234 underlying3 Z (Dl (by omega) (by omega))) (zm (J 10) Z (za (J 0) Z (za (J 10) Z (cS (aB (aO (v:=(.tuple #[(J 0),(J 10)])) (res2 Z Z Z) ?_)))))))))))))
  exact ⟨Z,(g2)⟩
theorem count_ok (w:World) (B rb n c:Nat) (bs:List UInt8) (A:Option Addr) (hq:Rdr w B rb bs A n c) (x:Int) (rest:List UInt8) (h:rdN bs = some (x,rest)):Ret prog 239 [(.pointer (some ⟨rb,0,none⟩))] w (fun v w'=>v = .tuple #[.int .i64 x,.int .i64 0]∧w.grownBy w' none):=by
  unfold rdN at h
  split at h
  · cases h
  · split at h
    · cases h
    · simp only [Option.some.injEq,Prod.mk.injEq] at h
      obtain ⟨rfl,rfl⟩:=h
      exact count_yes w B rb n c bs A hq (by omega) (by omega)
theorem count_no (w:World) (B rb n c:Nat) (bs:List UInt8) (A:Option Addr) (hq:Rdr w B rb bs A n c) (h:rdN bs = none):Ret prog 239 [(.pointer (some ⟨rb,0,none⟩))] w (fun v w' => ∃ e:Int,v = .tuple #[.int .i64 0,.int .i64 e]∧w.grownBy w' none∧e ≠ 0):=by
  unfold rdN at h
  split at h
  · exact (count_short w B rb n c bs A hq (by omega)).mono fun v w' ⟨h1,h2⟩=>⟨10,h1,h2,by decide⟩
  · split at h
    · exact (count_big w B rb n c bs A hq (by omega) (by omega)).mono fun v w' ⟨h1,h2⟩=>⟨11,h1,h2,by decide⟩
    · cases h
set_option maxHeartbeats 400000 in
set_option maxRecDepth 20000 in
theorem pass_ (w:World) (B rb n c:Nat) (bs:List UInt8) (A:Option Addr) (hq:Rdr w B rb bs A n c) (m:Nat) (hm2:m ≤ bs.length):Ret prog 240 [(.pointer (some ⟨rb,0,none⟩)),(J (m:Int))] w (fun v w'=>v = .tuple #[]∧w.grownBy w' (some rb)∧w'.heap.size = w.heap.size ∧ ∃ A',Rdr w' B rb (bs.drop m) A' (n - m) (c - m)):=by
  have hn:=hq.len
  have hc:=hq.cap
  have hm:=hq.max
  have hlt:=hq.lt
  have hsr:=hq.ob.lt
  refine aP func240 Z Z Z ?_
  refine aL (zm (.pointer (some ⟨rb,0,none⟩)) Z (zm (.pointer (some ⟨rb,0,none⟩)) Z (zg Z (bX Z) (zl (.slice A n c) lo256 hq.ob Z (zm (J (m:Int)) Z (RL.slR (i:=m) underlying256 sizeOf5 hq.row Z Z Z (by omega) (by simp [Aq,Au]; omega) Z Z ?_))))))
  intro A1 r2
  refine zg Z (bX Z) (bE (vs:=[(.slice A1 (n - m) (c - m))]) (cs':=[(.slice A1 (n - m) (c - m))]) sizeOf256 hq.ob Z Z Z Z Z Z ?_)
  intro w3 hz4 g5 o6
  refine aM (finQ.n (v:=(.tuple #[])) (res0 Z) ?_)
  exact ⟨Z,g5,by omega,A1,⟨o6,by rw [List.length_drop]; omega,by omega,by omega,by rw [← bcs_drop]; exact r2.st1 g5 (by have:=hq.lt; omega),hq.lt⟩⟩
set_option maxHeartbeats 400000 in
set_option maxRecDepth 20000 in
theorem number_ok (w : World) (B rb n c : Nat) (bs : List UInt8) (A : Option Addr) (hq : Rdr w B rb bs A n c) (x : Int) (rest : List UInt8) (h : rdN bs = some (x, rest)) : Ret prog 242 [(.pointer (some ⟨rb, 0, none⟩))] w (fun v w' => v = .tuple #[.int .i64 x, .int .i64 0] ∧ w.grownBy w' (some rb) ∧ ∃ A' n' c', Rdr w' B rb rest A' n' c') := by
  have hn:=hq.len
  have hc:=hq.cap
  have hm:=hq.max
  have hlt:=hq.lt
  have hsr:=hq.ob.lt
  obtain ⟨hl,hrest,hx0,hx1⟩:=Dh h
  refine aP func242 Z Z Z ?_
  refine cT (za (J 0) Z (za (J 0) Z (cS (cT (zm (.pointer (some ⟨rb,0,none⟩)) Z (aU call239 (count_ok _ _ _ _ _ _ _ hq x rest h) Z Z Z ?_))))))
  rintro _ w1 ⟨rfl,g2⟩
  have z3:=g2.size
  refine zm (.tuple #[(J x),(J 0)]) Z (zx (J x) Z (zx (J 0) Z (za (J x) Z (za (J 0) Z (cS (aD (cT (zm (J 0) Z (zg Z (bP (r:=true) Z Z (by decide)) (cS (aE Z (aL (zm (.pointer (some ⟨rb,0,none⟩)) Z ?_)))))))))))))
  have r4:=(hq.st0 g2)
  refine aU call240 (pass_ _ _ _ _ _ _ _ r4 4 (by omega)) Z Z Z ?_
  rintro _ w8 ⟨rfl,g9,hz7,A5,q6⟩
  have z10:=g9.size
  refine cS (cT (zm (J x) Z (zm (J 0) Z (za (J x) Z (za (J 0) Z (cS (aB (aO (v:=(.tuple #[(J x),(J 0)])) (res2 Z Z Z) ?_))))))))
  exact ⟨Z,(Ae (An g2 _) g9),_,_,_,by rw [hrest]; exact q6⟩
set_option maxHeartbeats 400000 in
set_option maxRecDepth 20000 in
theorem number_no (w:World) (B rb n c:Nat) (bs:List UInt8) (A:Option Addr) (hq:Rdr w B rb bs A n c) (h:rdN bs = none):Ret prog 242 [(.pointer (some ⟨rb,0,none⟩))] w (fun v w' => ∃ e:Int,v = .tuple #[.int .i64 0,.int .i64 e]∧w.grownBy w' (some rb)∧e ≠ 0):=by
  have hn:=hq.len
  have hc:=hq.cap
  have hm:=hq.max
  have hlt:=hq.lt
  have hsr:=hq.ob.lt
  refine aP func242 Z Z Z ?_
  refine cT (za (J 0) Z (za (J 0) Z (cS (cT (zm (.pointer (some ⟨rb,0,none⟩)) Z (aU call239 (count_no _ _ _ _ _ _ _ hq h) Z Z Z ?_))))))
  rintro _ w1 ⟨e,rfl,g2,he⟩
  have z3:=g2.size
  refine zm (.tuple #[(J 0),(J e)]) Z (zx (J 0) Z (zx (J e) Z (za (J 0) Z (za (J e) Z (cS (aD (cT (zm (J e) Z (zg Z (bP (r:=false) Z Z (decide_eq_false (he))) (cS (aF Z (aA (aQ (cT (zm (J 0) Z (zm (J e) Z ?_))))))))))))))))
  refine za (J 0) Z (za (J e) Z (cS (aB (aO (v:=(.tuple #[(J 0),(J e)])) (res2 Z Z Z) ?_))))
  exact ⟨_,rfl,(An g2 _),he⟩
theorem number_ (w:World) (B rb n c:Nat) (bs:List UInt8) (A:Option Addr) (hq:Rdr w B rb bs A n c):Ret prog 242 [(.pointer (some ⟨rb,0,none⟩))] w (fun v w' =>
    (∃ (x : Int) (rest : List UInt8) (A' : Option Addr) (n' c' : Nat), v = .tuple #[.int .i64 x, .int .i64 0] ∧ w.grownBy w' (some rb) ∧ rdN bs = some (x, rest) ∧ Rdr w' B rb rest A' n' c') ∨
    (∃ e:Int,v = .tuple #[.int .i64 0,.int .i64 e]∧w.grownBy w' (some rb)∧e ≠ 0∧rdN bs = none)):=by
  cases h:rdN bs with
  | none=>exact (number_no w B rb n c bs A hq h).mono fun v w' ⟨e,h1,h2,h3⟩=>.inr ⟨e,h1,h2,h3,rfl⟩
  | some xr =>
    obtain ⟨x,rest⟩:=xr
    exact (number_ok w B rb n c bs A hq x rest h).mono fun v w' ⟨h1,h2,A',n',c',h3⟩=>.inl ⟨x,rest,A',n',c',h1,h2,rfl,h3⟩
set_option maxHeartbeats 400000 in
set_option maxRecDepth 20000 in
theorem int_ok (w : World) (B rb n c : Nat) (bs : List UInt8) (A : Option Addr) (hq : Rdr w B rb bs A n c) (x : Int) (rest : List UInt8) (h : rdI bs = some (x, rest)) : Ret prog 267 [(.pointer (some ⟨rb, 0, none⟩))] w (fun v w' => v = .tuple #[.int .i64 x, .int .i64 0] ∧ w.grownBy w' (some rb) ∧ ∃ A' n' c', Rdr w' B rb rest A' n' c') := by
  have hn:=hq.len
  have hc:=hq.cap
  have hm:=hq.max
  have hlt:=hq.lt
  have hsr:=hq.ob.lt
  obtain ⟨hl,hrest,hx⟩:=rdI_some h
  refine aP func267 Z Z Z ?_
  refine cT (za (J 0) Z (za (J 0) Z (cS (cT (zm (.pointer (some ⟨rb,0,none⟩)) Z (aU call266 (peek_yes _ _ _ _ _ _ _ hq 8 (by omega) (by omega)) Z Z Z ?_))))))
  rintro _ w1 ⟨rfl,g2⟩
  have z3:=g2.size
  refine zm (.tuple #[(.int .u64 ((be (bs.take 8):Nat):Int)),(J 0)]) Z (zx (.int .u64 ((be (bs.take 8):Nat):Int)) Z (zx (J 0) Z (za (.int .u64 ((be (bs.take 8):Nat):Int)) Z (za (J 0) Z (cS (aD (cT (zm (J 0) Z (zg Z (bP (r:=true) Z Z (by decide)) (cS (aE Z (aL (zm (.pointer (some ⟨rb,0,none⟩)) Z ?_)))))))))))))
  have r4:=(hq.st0 g2)
  refine aU call240 (pass_ _ _ _ _ _ _ _ r4 8 (by omega)) Z Z Z ?_
  rintro _ w8 ⟨rfl,g9,hz7,A5,q6⟩
  have z10:=g9.size
  refine cS (cT (zm (.int .u64 ((be (bs.take 8):Nat):Int)) Z (zg Z (cD (r:=IntKind.i64.wrap ((be (bs.take 8):Nat):Int)) underlying234 underlying3 Z Z) (zm (J 0) Z (za (J (IntKind.i64.wrap ((be (bs.take 8):Nat):Int))) Z (za (J 0) Z (cS (aB (aO (v:=(.tuple #[(J (IntKind.i64.wrap ((be (bs.take 8):Nat):Int))),(J 0)])) (res2 Z Z Z) ?_)))))))))
  rw [hx]
  exact ⟨Z,(Ae (An g2 _) g9),_,_,_,by rw [hrest]; exact q6⟩
set_option maxHeartbeats 400000 in
set_option maxRecDepth 20000 in
theorem int_no (w:World) (B rb n c:Nat) (bs:List UInt8) (A:Option Addr) (hq:Rdr w B rb bs A n c) (hl:bs.length < 8):Ret prog 267 [(.pointer (some ⟨rb,0,none⟩))] w (fun v w' => ∃ e:Int,v = .tuple #[.int .i64 0,.int .i64 e]∧w.grownBy w' (some rb)∧e ≠ 0):=by
  have hn:=hq.len
  have hc:=hq.cap
  have hm:=hq.max
  have hlt:=hq.lt
  have hsr:=hq.ob.lt
  refine aP func267 Z Z Z ?_
  refine cT (za (J 0) Z (za (J 0) Z (cS (cT (zm (.pointer (some ⟨rb,0,none⟩)) Z (aU call266 (peek_no _ _ _ _ _ _ _ hq 8 (by omega)) Z Z Z ?_))))))
  rintro _ w1 ⟨rfl,g2⟩
  have z3:=g2.size
  refine zm (.tuple #[(.int .u64 0),(J 10)]) Z (zx (.int .u64 0) Z (zx (J 10) Z (za (.int .u64 0) Z (za (J 10) Z (cS (aD (cT (zm (J 10) Z (zg Z (bP (r:=false) Z Z (by decide)) (cS (aF Z (aA (aQ (cT (zm (.int .u64 0) Z (zg Z (cD (r:=0) underlying234 underlying3 Z (by decide)) ?_))))))))))))))))
  refine zm (J 10) Z (za (J 0) Z (za (J 10) Z (cS (aB (aO (v:=(.tuple #[(J 0),(J 10)])) (res2 Z Z Z) ?_)))))
  exact ⟨_,rfl,(An g2 _),by decide⟩
theorem int_ (w:World) (B rb n c:Nat) (bs:List UInt8) (A:Option Addr) (hq:Rdr w B rb bs A n c):Ret prog 267 [(.pointer (some ⟨rb,0,none⟩))] w (fun v w' =>
    (∃ (x : Int) (rest : List UInt8) (A' : Option Addr) (n' c' : Nat), v = .tuple #[.int .i64 x, .int .i64 0] ∧ w.grownBy w' (some rb) ∧ rdI bs = some (x, rest) ∧ Rdr w' B rb rest A' n' c') ∨
    (∃ e:Int,v = .tuple #[.int .i64 0,.int .i64 e]∧w.grownBy w' (some rb)∧e ≠ 0∧rdI bs = none)):=by
  cases h:rdI bs with
  | none => exact (int_no w B rb n c bs A hq (by unfold rdI at h; split at h; · assumption
                                                 · cases h)).mono fun v w' ⟨e,h1,h2,h3⟩=>.inr ⟨e,h1,h2,h3,rfl⟩
  | some xr =>
    obtain ⟨x,rest⟩:=xr
    exact (int_ok w B rb n c bs A hq x rest h).mono fun v w' ⟨h1,h2,A',n',c',h3⟩=>.inl ⟨x,rest,A',n',c',h1,h2,rfl,h3⟩
set_option maxHeartbeats 400000 in
set_option maxRecDepth 20000 in
theorem left_ (w : World) (B rb n c : Nat) (bs : List UInt8) (A : Option Addr) (hq : Rdr w B rb bs A n c) : Ret prog 238 [(.pointer (some ⟨rb, 0, none⟩))] w (fun v w' => v = .int .i64 ((bs.length : Nat) : Int) ∧ w = w') := by
  have hn:=hq.len
  have hc:=hq.cap
  have hm:=hq.max
  have hlt:=hq.lt
  have hsr:=hq.ob.lt
  refine aP func238 Z Z Z ?_
  refine cT (za (J 0) Z (cS (aD (cT (zm (.pointer (some ⟨rb,0,none⟩)) Z (zg Z (Ex.eqPn underlying200 Z Z) (cS (aF Z (aA (aQ (cT (zm (.pointer (some ⟨rb,0,none⟩)) Z (zg Z (bX Z) (zl (.slice A n c) lo256 hq.ob Z (zg Z (bR underlying256 Z) (za (J (n:Nat)) Z ?_))))))))))))))))
  refine cS (aB (aO (v:=(J (n:Nat))) (Ba Z Z) ?_))
  exact ⟨by rw [hn],rfl⟩
set_option maxHeartbeats 400000 in
set_option maxRecDepth 20000 in
theorem got_int (w:World) (x e:Int):RP prog 241 [(J x),(J e)] w (fun v w'=>v = .int .i64 x∧w = w'∧e = 0) (fun w'=>w = w'∧e ≠ 0):=by
  refine RP.body func241 Z Z Z ?_
  refine cT (za (J 0) Z (cS (aD (cT (zm (J e) Z ?_)))))
  refine zc ((e:Int) ≠ (0:Int)) Z (fun r hr=>bQ Z Z hr) (fun h1=>?_) (fun h1=>?_)
  ·refine cS (aE rfl (aL (zg rfl (bY (cs:=[]) bd252 rfl) (zg rfl (Ex.mki (v:=(.agg ([]).toArray)) underlying252 (by intro _ h; cases h) rfl) (RL.pan (tv:=(252,(.agg ([]).toArray))) rfl rfl ?_)))))
   ·refine aT (finRP.p ?_)
    exact ⟨Z,by omega⟩
  ·refine cS (aF Z (aA (aQ (cT (zm (J x) Z (za (J x) Z (cS (aB (finRP.r (v:=(J x)) (Ba Z Z) ?_)))))))))
   exact ⟨Z,rfl,by omega⟩
set_option maxHeartbeats 400000 in
set_option maxRecDepth 20000 in
theorem is_t (w : World)  : Ret prog 184 [bT] w (fun v w' => v = .tuple #[] ∧ w = w') := by
  refine aP func184 Z Z Z ?_
  refine cT (zm bT Z (zg Z (bC (b:=true) Z) (cS (aF Z (aA (finQ.n (v:=(.tuple #[])) (res0 Z) ?_))))))
  exact ⟨Z,rfl⟩
set_option maxHeartbeats 400000 in
set_option maxRecDepth 20000 in
theorem is_f (w : World)  : RP prog 184 [bF] w (fun _ _ => False) (fun w' => w = w') := by
  refine RP.body func184 Z Z Z ?_
  refine cT (zm bF rfl (zg rfl (bC (b:=false) rfl) (cS (aE rfl (aL (zg rfl (bY (cs:=[]) bd252 rfl) (zg rfl (Ex.mki (v:=(.agg ([]).toArray)) underlying252 (by intro _ h; cases h) rfl) (RL.pan (tv:=(252,(.agg ([]).toArray))) rfl rfl ?_))))))))
  ·refine finRP.p ?_
   rfl
set_option maxHeartbeats 400000 in
set_option maxRecDepth 20000 in
theorem in_n (w : World) (B ib rb n c : Nat) (bs : List UInt8) (A : Option Addr) (hq : In w B ib rb bs A n c) : RP prog 182 [(.pointer (some ⟨ib, 0, none⟩))] w (fun v w' => ∃ (x : Int) (rest : List UInt8) (A' : Option Addr) (n' c' : Nat), v = .int .i64 x ∧ w.grownBy w' (some rb) ∧ rdN bs = some (x, rest) ∧ In w' B ib rb rest A' n' c') (fun w' => w.grownBy w' (some rb) ∧ rdN bs = none) := by
  have hn:=hq.rdr.len
  have hc:=hq.rdr.cap
  have hm:=hq.rdr.max
  have hne:=hq.ne
  have hlt:=hq.rdr.lt
  have hli:=hq.lti
  have hsr:=hq.rdr.ob.lt
  have hsi:=hq.inb.lt
  refine RP.body func182 Z Z Z ?_
  refine cT (za (J 0) Z (cS (cT (zm (.pointer (some ⟨ib,0,none⟩)) Z (zg Z (bX Z) (zg Z (fa202_0 (b:=⟨ib,0,none⟩) Z Z) (zl (.pointer (some ⟨rb,0,none⟩)) lo200 hq.inb Z (aU call242 (number_ _ _ _ _ _ _ _ hq.rdr) Z Z Z ?_))))))))
  rintro _ w10 (⟨x1,rest2,A3,n4,c5,rfl,g11,hr7,q6⟩ | ⟨e8,rfl,g13,he9,hr7⟩)
  ·have z12:=g11.size
   refine zx (J x1) Z (zx (J 0) Z ?_)
   refine cB call241 (got_int _ x1 0) Z Z Z ?_ ?_
   ·rintro _ _ ⟨rfl,rfl,h015⟩
    refine za (J x1) Z (cS (aB (finRP.r (v:=(J x1)) (Ba Z Z) ?_)))
    exact ⟨_,_,_,_,_,rfl,(g11),hr7,⟨q6,hq.inb.st1 (g11) hne,hne,hli⟩⟩
   ·rintro tv _ ⟨rfl,h015⟩
    refine aT (finRP.p ?_)
    exact absurd Z h015
  ·have z14:=g13.size
   refine zx (J 0) Z (zx (J e8) Z ?_)
   refine cB call241 (got_int _ 0 e8) Z Z Z ?_ ?_
   ·rintro _ _ ⟨rfl,rfl,h018⟩
    refine za (J 0) Z (cS (aB (finRP.r (v:=(J 0)) (Ba Z Z) ?_)))
    exact absurd h018 he9
   ·rintro tv _ ⟨rfl,h018⟩
    refine aT (finRP.p ?_)
    exact ⟨(g13),hr7⟩
set_option maxHeartbeats 400000 in
set_option maxRecDepth 20000 in
theorem in_i (w : World) (B ib rb n c : Nat) (bs : List UInt8) (A : Option Addr) (hq : In w B ib rb bs A n c) : RP prog 243 [(.pointer (some ⟨ib, 0, none⟩))] w (fun v w' => ∃ (x : Int) (rest : List UInt8) (A' : Option Addr) (n' c' : Nat), v = .int .i64 x ∧ w.grownBy w' (some rb) ∧ rdI bs = some (x, rest) ∧ In w' B ib rb rest A' n' c') (fun w' => w.grownBy w' (some rb) ∧ rdI bs = none) := by
  have hn:=hq.rdr.len
  have hc:=hq.rdr.cap
  have hm:=hq.rdr.max
  have hne:=hq.ne
  have hlt:=hq.rdr.lt
  have hli:=hq.lti
  have hsr:=hq.rdr.ob.lt
  have hsi:=hq.inb.lt
  refine RP.body func243 Z Z Z ?_
  refine cT (za (J 0) Z (cS (cT (zm (.pointer (some ⟨ib,0,none⟩)) Z (zg Z (bX Z) (zg Z (fa202_0 (b:=⟨ib,0,none⟩) Z Z) (zl (.pointer (some ⟨rb,0,none⟩)) lo200 hq.inb Z (aU call267 (int_ _ _ _ _ _ _ _ hq.rdr) Z Z Z ?_))))))))
  rintro _ w10 (⟨x1,rest2,A3,n4,c5,rfl,g11,hr7,q6⟩ | ⟨e8,rfl,g13,he9,hr7⟩)
  ·have z12:=g11.size
   refine zx (J x1) Z (zx (J 0) Z ?_)
   refine cB call241 (got_int _ x1 0) Z Z Z ?_ ?_
   ·rintro _ _ ⟨rfl,rfl,h015⟩
    refine za (J x1) Z (cS (aB (finRP.r (v:=(J x1)) (Ba Z Z) ?_)))
    exact ⟨_,_,_,_,_,rfl,(g11),hr7,⟨q6,hq.inb.st1 (g11) hne,hne,hli⟩⟩
   ·rintro tv _ ⟨rfl,h015⟩
    refine aT (finRP.p ?_)
    exact absurd Z h015
  ·have z14:=g13.size
   refine zx (J 0) Z (zx (J e8) Z ?_)
   refine cB call241 (got_int _ 0 e8) Z Z Z ?_ ?_
   ·rintro _ _ ⟨rfl,rfl,h018⟩
    refine za (J 0) Z (cS (aB (finRP.r (v:=(J 0)) (Ba Z Z) ?_)))
    exact absurd h018 he9
   ·rintro tv _ ⟨rfl,h018⟩
    refine aT (finRP.p ?_)
    exact ⟨(g13),hr7⟩
end Go.Proofs.YtfokljnhllflbaaGreat
namespace Go.Proofs.YtfokljnhllflbaaGreat
open Go Go.Eng Go.RowKit Go.Proofs.Tryz
set_option maxHeartbeats 400000 in
set_option maxRecDepth 20000 in
theorem many_n (w : World) (B ib rb n c : Nat) (bs : List UInt8) (A : Option Addr) (hq : In w B ib rb bs A n c) (m : Nat) (hm2 : m ≤ 2147483647) (most : Nat) (hmost : most ≤ 4096) : RP prog 289 [(J (m : Int)), (J (most : Int)), (.func (.func 182) #[(.pointer (some ⟨ib, 0, none⟩))] #[])] w (fun v w' => ∃ (l : List Int) (rest : List UInt8) (A1 : Option Addr) (c1 : Nat) (A' : Option Addr) (n' c' : Nat), v = .slice A1 m c1 ∧ w.grownBy w' (some rb) ∧ m ≤ most ∧ rdL rdN m bs = some (l, rest) ∧ l.length = m ∧ Ow w' w.heap.size 3 1 A1 c1 (ics l) ∧ In w' B ib rb rest A' n' c') (fun w' => w.grownBy w' (some rb) ∧ (most < m ∨ rdL rdN m bs = none)) := by
  have hn:=hq.rdr.len
  have hc:=hq.rdr.cap
  have hm:=hq.rdr.max
  have hne:=hq.ne
  have hlt:=hq.rdr.lt
  have hli:=hq.lti
  have hsr:=hq.rdr.ob.lt
  have hsi:=hq.inb.lt
  refine RP.body func289 Z Z Z ?_
  refine cT (za (.slice none 0 0) Z (cS (cT (zm (J (m:Int)) Z (zm (J (most:Int)) Z ?_)))))
  refine zc (((m:Int):Int) ≤ ((most:Int):Int)) Z (fun r hr=>bM Z Z hr) (fun h1=>?_) (fun h1=>?_)
  ·refine aU call184 (is_t _) Z Z Z ?_
   rintro _ _ ⟨rfl,rfl⟩
   refine cS (cT (za (.slice none 0 0) Z (cS (aD (cT (zm (J (m:Int)) Z (zm (J 0) Z (cS (aG ?_)))))))))
   refine aK (fun t=>Nat.beq t 7 || (Nat.ble 13 t && Nat.ble t 20)) (fun n ρ wl => ∃ (k:Nat) (l:List Int) (rest:List UInt8) (A1 A2:Option Addr) (c1 n2 c2:Nat),ρ 13 = (J (k:Int))∧ρ 7 = (.slice A1 k c1)∧n = m - k∧World.grownBy w wl (some rb)∧k ≤ m∧l.length = k∧rdL rdN k bs = some (l,rest)∧Ow wl w.heap.size 3 1 A1 c1 (ics l)∧In wl B ib rb rest A2 n2 c2) (m) ?aa0 ?bb0
   case aa0=>exact ⟨0,[],bs,none,A,0,n,c,rfl,rfl,rfl,Bs _ _,Nat.zero_le _,rfl,rfl,Ow.nil_ _ _ _ _,hq⟩
   case bb0 =>
    rintro n4 ρ0 w2 ho5 ⟨k,l,rest,A1,A2,c1,n2,c2,hs0_13,hs0_7,hn0,g3,hk,hl,hL,how,hin⟩
    obtain ⟨j0,rfl⟩:=ho5.shape2 hs0_13 hs0_7
    clear ho5 hs0_13 hs0_7
    subst hn0
    have z6:=g3.size
    refine cT ?_
    refine zc (((k:Int):Int) < ((m:Int):Int)) Z (fun r hr=>bL Z Z hr) (fun h7=>?_) (fun h7=>?_)
    ·refine cS (aD (aE Z (aA (aQ (aD (aG (aL (zm (.slice A1 k c1) Z (zm (.func (.func 182) #[(.pointer (some ⟨ib,0,none⟩))] #[]) Z ?_)))))))))
     refine cC call182 Z (in_n _ _ _ _ _ _ _ _ hin) Z Z Z ?_ ?_
     ·rintro _ w17 ⟨x8,rest9,A10,n11,c12,rfl,g18,hr14,q13⟩; have z19:=g18.size; have hv16:=Dh hr14
      refine cF (cs:=[(J x8)]) underlying134 sizeOf3 ze134 Z Z Z (by decide) Z Z Z ?_
      intro w22 b23 hb24 hz25 g26 o27
      have o28:=((how.st1 g18 (Ow.ne_or how (by omega))).st0 g26)
      refine cG (base:=w.heap.size) (xss:=ics l) (yss:=[[(J x8)]]) el134 Z o28 Z (by simp [Aq,Au,Ar,Am,Ak]; try omega) (Ob.rd1 o27 Z) Z Z (by simp [Value.oneCell']) (by omega) (by omega) (by omega) Z Z ?_
      intro w29 A30 c31 g32 ow33
      have z34:=g32.size
      refine za (.slice A30 (k + 1) c31) Z (aM (inB.n (aQ (aL (zg Z (bI (r:=(k:Int) + 1) Z Z (Dl (by omega) (by omega))) (zm (J ((k:Int) + 1)) Z (cS ?_)))))))
      have i35:=((q13.st0 g26).stO g32 o28 (by decide) (by omega))
      refine ⟨(by repeat (first | exact aJ _ _ | exact aH _ _ | refine aI ?_ Z _)),_,?_,⟨k + 1,l ++ [x8],_,_,_,_,_,_,rfl,rfl,rfl,(Cu (Ae (Ae (g3) g18) (An g26 _)) g32 o28 (by omega)),by omega,by simp [hl],by simp [rdL,hL,hr14],(by rw [ics_snoc]; exact ow33),i35⟩⟩
      omega
     ·rintro tv w20 ⟨g21,hr14⟩
      have z36:=g21.size
      refine inB.p (aT (aT (inB.p (aT (finRP.p ?_)))))
      exact ⟨(Ae (g3) g21),.inr (rdL_stop hL hr14 m (by omega))⟩
    ·refine cS (aD (aF Z (aC (aS (aS (Bo (aQ (cT (zm (.slice A1 k c1) Z (za (.slice A1 k c1) Z (cS (aB (finRP.r (v:=(.slice A1 k c1)) (Ba Z Z) ?_)))))))))))))
     have e:k = m:=by omega
     subst e
     exact ⟨l,rest,A1,c1,A2,n2,c2,rfl,(g3),by omega,hL,hl,how,hin⟩
  ·refine cB call184 (is_f _) Z Z Z ?_ ?_
   ·intro _ _ hF; exact hF.elim
   ·rintro tv _ rfl
    refine aT (finRP.p ?_)
    exact ⟨Bs _ _,.inl (by omega)⟩
set_option maxHeartbeats 400000 in
set_option maxRecDepth 20000 in
theorem many_i (w : World) (B ib rb n c : Nat) (bs : List UInt8) (A : Option Addr) (hq : In w B ib rb bs A n c) (m : Nat) (hm2 : m ≤ 2147483647) (most : Nat) (hmost : most ≤ 4096) : RP prog 289 [(J (m : Int)), (J (most : Int)), (.func (.func 243) #[(.pointer (some ⟨ib, 0, none⟩))] #[])] w (fun v w' => ∃ (l : List Int) (rest : List UInt8) (A1 : Option Addr) (c1 : Nat) (A' : Option Addr) (n' c' : Nat), v = .slice A1 m c1 ∧ w.grownBy w' (some rb) ∧ m ≤ most ∧ rdL rdI m bs = some (l, rest) ∧ l.length = m ∧ Ow w' w.heap.size 3 1 A1 c1 (ics l) ∧ In w' B ib rb rest A' n' c') (fun w' => w.grownBy w' (some rb) ∧ (most < m ∨ rdL rdI m bs = none)) := by
  have hn:=hq.rdr.len
  have hc:=hq.rdr.cap
  have hm:=hq.rdr.max
  have hne:=hq.ne
  have hlt:=hq.rdr.lt
  have hli:=hq.lti
  have hsr:=hq.rdr.ob.lt
  have hsi:=hq.inb.lt
  refine RP.body func289 Z Z Z ?_
  refine cT (za (.slice none 0 0) Z (cS (cT (zm (J (m:Int)) Z (zm (J (most:Int)) Z ?_)))))
  refine zc (((m:Int):Int) ≤ ((most:Int):Int)) Z (fun r hr=>bM Z Z hr) (fun h1=>?_) (fun h1=>?_)
  ·refine aU call184 (is_t _) Z Z Z ?_
   rintro _ _ ⟨rfl,rfl⟩
   refine cS (cT (za (.slice none 0 0) Z (cS (aD (cT (zm (J (m:Int)) Z (zm (J 0) Z (cS (aG ?_)))))))))
   refine aK (fun t=>Nat.beq t 7 || (Nat.ble 13 t && Nat.ble t 20)) (fun n ρ wl => ∃ (k:Nat) (l:List Int) (rest:List UInt8) (A1 A2:Option Addr) (c1 n2 c2:Nat),ρ 13 = (J (k:Int))∧ρ 7 = (.slice A1 k c1)∧n = m - k∧World.grownBy w wl (some rb)∧k ≤ m∧l.length = k∧rdL rdI k bs = some (l,rest)∧Ow wl w.heap.size 3 1 A1 c1 (ics l)∧In wl B ib rb rest A2 n2 c2) (m) ?aa0 ?bb0
   case aa0=>exact ⟨0,[],bs,none,A,0,n,c,rfl,rfl,rfl,Bs _ _,Nat.zero_le _,rfl,rfl,Ow.nil_ _ _ _ _,hq⟩
   case bb0 =>
    rintro n4 ρ0 w2 ho5 ⟨k,l,rest,A1,A2,c1,n2,c2,hs0_13,hs0_7,hn0,g3,hk,hl,hL,how,hin⟩
    obtain ⟨j0,rfl⟩:=ho5.shape2 hs0_13 hs0_7
    clear ho5 hs0_13 hs0_7
    subst hn0
    have z6:=g3.size
    refine cT ?_
    refine zc (((k:Int):Int) < ((m:Int):Int)) Z (fun r hr=>bL Z Z hr) (fun h7=>?_) (fun h7=>?_)
    ·refine cS (aD (aE Z (aA (aQ (aD (aG (aL (zm (.slice A1 k c1) Z (zm (.func (.func 243) #[(.pointer (some ⟨ib,0,none⟩))] #[]) Z ?_)))))))))
     refine cC call243 Z (in_i _ _ _ _ _ _ _ _ hin) Z Z Z ?_ ?_
     ·rintro _ w17 ⟨x8,rest9,A10,n11,c12,rfl,g18,hr14,q13⟩; have z19:=g18.size; have hv16:=rdI_some hr14
      refine cF (cs:=[(J x8)]) underlying134 sizeOf3 ze134 Z Z Z (by decide) Z Z Z ?_
      intro w22 b23 hb24 hz25 g26 o27
      have o28:=((how.st1 g18 (Ow.ne_or how (by omega))).st0 g26)
      refine cG (base:=w.heap.size) (xss:=ics l) (yss:=[[(J x8)]]) el134 Z o28 Z (by simp [Aq,Au,Ar,Am,Ak]; try omega) (Ob.rd1 o27 Z) Z Z (by simp [Value.oneCell']) (by omega) (by omega) (by omega) Z Z ?_
      intro w29 A30 c31 g32 ow33
      have z34:=g32.size
      refine za (.slice A30 (k + 1) c31) Z (aM (inB.n (aQ (aL (zg Z (bI (r:=(k:Int) + 1) Z Z (Dl (by omega) (by omega))) (zm (J ((k:Int) + 1)) Z (cS ?_)))))))
      have i35:=((q13.st0 g26).stO g32 o28 (by decide) (by omega))
      refine ⟨(by repeat (first | exact aJ _ _ | exact aH _ _ | refine aI ?_ Z _)),_,?_,⟨k + 1,l ++ [x8],_,_,_,_,_,_,rfl,rfl,rfl,(Cu (Ae (Ae (g3) g18) (An g26 _)) g32 o28 (by omega)),by omega,by simp [hl],by simp [rdL,hL,hr14],(by rw [ics_snoc]; exact ow33),i35⟩⟩
      omega
     ·rintro tv w20 ⟨g21,hr14⟩
      have z36:=g21.size
      refine inB.p (aT (aT (inB.p (aT (finRP.p ?_)))))
      exact ⟨(Ae (g3) g21),.inr (rdL_stop hL hr14 m (by omega))⟩
    ·refine cS (aD (aF Z (aC (aS (aS (Bo (aQ (cT (zm (.slice A1 k c1) Z (za (.slice A1 k c1) Z (cS (aB (finRP.r (v:=(.slice A1 k c1)) (Ba Z Z) ?_)))))))))))))
     have e:k = m:=by omega
     subst e
     exact ⟨l,rest,A1,c1,A2,n2,c2,rfl,(g3),by omega,hL,hl,how,hin⟩
  ·refine cB call184 (is_f _) Z Z Z ?_ ?_
   ·intro _ _ hF; exact hF.elim
   ·rintro tv _ rfl
    refine aT (finRP.p ?_)
    exact ⟨Bs _ _,.inl (by omega)⟩
set_option maxHeartbeats 400000 in
set_option maxRecDepth 20000 in
theorem in_row (w : World) (B ib rb n c : Nat) (bs : List UInt8) (A : Option Addr) (hq : In w B ib rb bs A n c) : RP prog 183 [(.pointer (some ⟨ib, 0, none⟩))] w (fun v w' => ∃ (x : Row) (rest : List UInt8) (A' : Option Addr) (n' c' : Nat), v = .agg x.cells.toArray ∧ w.grownBy w' (some rb) ∧ rdRow bs = some (x, rest) ∧ In w' B ib rb rest A' n' c') (fun w' => w.grownBy w' (some rb) ∧ rdRow bs = none) := by
  have hn:=hq.rdr.len
  have hc:=hq.rdr.cap
  have hm:=hq.rdr.max
  have hne:=hq.ne
  have hlt:=hq.rdr.lt
  have hli:=hq.lti
  have hsr:=hq.rdr.ob.lt
  have hsi:=hq.inb.lt
  refine RP.body func183 Z Z Z ?_
  refine cT (bG (cs:=[(J 0),(J 0),(J 0),(J 0)]) zeroValue123 Z Z Z ?_)
  intro w1 b2 hb3 hz4 g5 o6
  refine cS (cT (bG (cs:=[(J 0),(J 0),(J 0),(J 0)]) zeroValue123 Z Z Z ?_))
  intro w7 b8 hb9 hz10 g11 o12
  refine cS (cT (zm (.pointer (some ⟨ib,0,none⟩)) Z ?_))
  have i13:=((hq.st0 g5).st0 g11)
  refine cB call182 (in_n _ _ _ _ _ _ _ _ i13) Z Z Z ?_ ?_
  ·rintro _ w23 ⟨x14,rest15,A16,n17,c18,rfl,g24,hr20,q19⟩; have z25:=g24.size; have hv22:=Dh hr20
   refine zg Z (Dj (b:=⟨b8,0,none⟩) Z Z) ?_
   have o28:=(o12.st1 g24 (by omega))
   refine bE (vs:=[(J x14)]) (cs':=[(J x14),(J 0),(J 0),(J 0)]) sizeOf3 o28 Z Z Z Z Z Z ?_
   intro w29 hz30 g31 o32
   refine cS (cT (zm (.pointer (some ⟨ib,0,none⟩)) Z ?_))
   have i33:=(q19.st1 g31 (by omega) (by omega) (by omega))
   refine cB call182 (in_n _ _ _ _ _ _ _ _ i33) Z Z Z ?_ ?_
   ·rintro _ w43 ⟨x34,rest35,A36,n37,c38,rfl,g44,hr40,q39⟩; have z45:=g44.size; have hv42:=Dh hr40
    refine zg Z (fa123_1 (b:=⟨b8,1,none⟩) Z Z) ?_
    have o48:=(o32.st1 g44 (by omega))
    refine bE (vs:=[(J x34)]) (cs':=[(J x14),(J x34),(J 0),(J 0)]) sizeOf3 o48 Z Z Z Z Z Z ?_
    intro w49 hz50 g51 o52
    refine cS (cT (zm (.pointer (some ⟨ib,0,none⟩)) Z ?_))
    have i53:=(q39.st1 g51 (by omega) (by omega) (by omega))
    refine cB call182 (in_n _ _ _ _ _ _ _ _ i53) Z Z Z ?_ ?_
    ·rintro _ w63 ⟨x54,rest55,A56,n57,c58,rfl,g65,hr60,q59⟩; have z66:=g65.size; have hv62:=Dh hr60
     refine zg Z (fa123_2 (b:=⟨b8,2,none⟩) Z Z) (zg Z (fa55_0 (b:=⟨b8,2,none⟩) Z Z) ?_)
     have o69:=(o52.st1 g65 (by omega))
     refine bE (vs:=[(J x54)]) (cs':=[(J x14),(J x34),(J x54),(J 0)]) sizeOf53 o69 Z Z Z Z Z Z ?_
     intro w70 hz71 g72 o73
     refine cS (cT (zm (.pointer (some ⟨ib,0,none⟩)) Z ?_))
     have i74:=(q59.st1 g72 (by omega) (by omega) (by omega))
     refine cB call243 (in_i _ _ _ _ _ _ _ _ i74) Z Z Z ?_ ?_
     ·rintro _ w84 ⟨x75,rest76,A77,n78,c79,rfl,g85,hr81,q80⟩; have z86:=g85.size; have hv83:=rdI_some hr81
      refine zg Z (fa123_2 (b:=⟨b8,2,none⟩) Z Z) (zg Z (fa55_1 (b:=⟨b8,3,none⟩) Z Z) ?_)
      have o89:=(o73.st1 g85 (by omega))
      refine bE (vs:=[(J x75)]) (cs':=[(J x14),(J x34),(J x54),(J x75)]) sizeOf3 o89 Z Z Z Z Z Z ?_
      intro w90 hz91 g92 o93
      refine cS (cT (zg Z (bW Z (Aj (cs:=[(J x14),(J x34),(J x54),(J x75)]) wh123 o93.cl)) ?_))
      have o94:=(((((((((o6.st0 g11).st1 g24 (by omega)).st1 g31 (by omega)).st1 g44 (by omega)).st1 g51 (by omega)).st1 g65 (by omega)).st1 g72 (by omega)).st1 g85 (by omega)).st1 g92 (by omega))
      refine bE (vs:=[(J x14),(J x34),(J x54),(J x75)]) (cs':=[(J x14),(J x34),(J x54),(J x75)]) sizeOf123 o94 Z Z Z Z Z Z ?_
      intro w95 hz96 g97 o98
      refine cS (aB (finRP.r (v:=(.agg ([(J x14),(J x34),(J x54),(J x75)]).toArray)) (resv1 Z (cA Z (Aj (cs:=[(J x14),(J x34),(J x54),(J x75)]) wh123 o98.cl))) ?_))
      have i99:=((q80.st1 g92 (by omega) (by omega) (by omega)).st1 g97 (by omega) (by omega) (by omega))
      exact ⟨⟨x14,x34,x54,x75⟩,_,_,_,_,rfl,(Ah (Ah (Ae (Ah (Ae (Ah (Ae (Ah (Ae (Ae (An g5 _) (An g11 _)) g24) g31 (by omega)) g44) g51 (by omega)) g65) g72 (by omega)) g85) g92 (by omega)) g97 (by omega)),by simp [rdRow,hr20,hr40,hr60,hr81],i99⟩
     ·rintro tv w87 ⟨g88,hr81⟩
      have z100:=g88.size
      refine aT (finRP.p ?_)
      exact ⟨(Ae (Ah (Ae (Ah (Ae (Ah (Ae (Ae (An g5 _) (An g11 _)) g24) g31 (by omega)) g44) g51 (by omega)) g65) g72 (by omega)) g88),by simp [rdRow,hr20,hr40,hr60,hr81]⟩
    ·rintro tv w67 ⟨g68,hr60⟩
     have z101:=g68.size
     refine aT (finRP.p ?_)
     exact ⟨(Ae (Ah (Ae (Ah (Ae (Ae (An g5 _) (An g11 _)) g24) g31 (by omega)) g44) g51 (by omega)) g68),by simp [rdRow,hr20,hr40,hr60]⟩
   ·rintro tv w46 ⟨g47,hr40⟩
    have z102:=g47.size
    refine aT (finRP.p ?_)
    exact ⟨(Ae (Ah (Ae (Ae (An g5 _) (An g11 _)) g24) g31 (by omega)) g47),by simp [rdRow,hr20,hr40]⟩
  ·rintro tv w26 ⟨g27,hr20⟩
   have z103:=g27.size
   refine aT (finRP.p ?_)
   exact ⟨(Ae (Ae (An g5 _) (An g11 _)) g27),by simp [rdRow,hr20]⟩
set_option maxHeartbeats 400000 in
set_option maxRecDepth 20000 in
theorem many_row (w : World) (B ib rb n c : Nat) (bs : List UInt8) (A : Option Addr) (hq : In w B ib rb bs A n c) (m : Nat) (hm2 : m ≤ 2147483647) (most : Nat) (hmost : most ≤ 4096) : RP prog 181 [(J (m : Int)), (J (most : Int)), (.func (.func 183) #[(.pointer (some ⟨ib, 0, none⟩))] #[])] w (fun v w' => ∃ (l : List Row) (rest : List UInt8) (A1 : Option Addr) (c1 : Nat) (A' : Option Addr) (n' c' : Nat), v = .slice A1 m c1 ∧ w.grownBy w' (some rb) ∧ m ≤ most ∧ rdL rdRow m bs = some (l, rest) ∧ l.length = m ∧ Ow w' w.heap.size 123 4 A1 c1 (rows l) ∧ In w' B ib rb rest A' n' c') (fun w' => w.grownBy w' (some rb) ∧ (most < m ∨ rdL rdRow m bs = none)) := by
  have hn:=hq.rdr.len
  have hc:=hq.rdr.cap
  have hm:=hq.rdr.max
  have hne:=hq.ne
  have hlt:=hq.rdr.lt
  have hli:=hq.lti
  have hsr:=hq.rdr.ob.lt
  have hsi:=hq.inb.lt
  refine RP.body func181 Z Z Z ?_
  refine cT (za (.slice none 0 0) Z (cS (cT (zm (J (m:Int)) Z (zm (J (most:Int)) Z ?_)))))
  refine zc (((m:Int):Int) ≤ ((most:Int):Int)) Z (fun r hr=>bM Z Z hr) (fun h1=>?_) (fun h1=>?_)
  ·refine aU call184 (is_t _) Z Z Z ?_
   rintro _ _ ⟨rfl,rfl⟩
   refine cS (cT (za (.slice none 0 0) Z (cS (aD (cT (zm (J (m:Int)) Z (zm (J 0) Z (cS (aG ?_)))))))))
   refine aK (fun t=>Nat.beq t 7 || (Nat.ble 13 t && Nat.ble t 20)) (fun n ρ wl => ∃ (k:Nat) (l:List Row) (rest:List UInt8) (A1 A2:Option Addr) (c1 n2 c2:Nat),ρ 13 = (J (k:Int))∧ρ 7 = (.slice A1 k c1)∧n = m - k∧World.grownBy w wl (some rb)∧k ≤ m∧l.length = k∧rdL rdRow k bs = some (l,rest)∧Ow wl w.heap.size 123 4 A1 c1 (rows l)∧In wl B ib rb rest A2 n2 c2) (m) ?aa0 ?bb0
   case aa0=>exact ⟨0,[],bs,none,A,0,n,c,rfl,rfl,rfl,Bs _ _,Nat.zero_le _,rfl,rfl,Ow.nil_ _ _ _ _,hq⟩
   case bb0 =>
    rintro n4 ρ0 w2 ho5 ⟨k,l,rest,A1,A2,c1,n2,c2,hs0_13,hs0_7,hn0,g3,hk,hl,hL,how,hin⟩
    obtain ⟨j0,rfl⟩:=ho5.shape2 hs0_13 hs0_7
    clear ho5 hs0_13 hs0_7
    subst hn0
    have z6:=g3.size
    refine cT ?_
    refine zc (((k:Int):Int) < ((m:Int):Int)) Z (fun r hr=>bL Z Z hr) (fun h7=>?_) (fun h7=>?_)
    ·refine cS (aD (aE Z (aA (aQ (aD (aG (aL (zm (.slice A1 k c1) Z (zm (.func (.func 183) #[(.pointer (some ⟨ib,0,none⟩))] #[]) Z ?_)))))))))
     refine cC call183 Z (in_row _ _ _ _ _ _ _ _ hin) Z Z Z ?_ ?_
     ·rintro _ w15 ⟨x8,rest9,A10,n11,c12,rfl,g16,hr14,q13⟩; have z17:=g16.size
      refine cF (cs:=x8.cells) underlying48 sizeOf123 ze48 Z Z Z (by decide) Z Z Z ?_
      intro w20 b21 hb22 hz23 g24 o25
      have o26:=((how.st1 g16 (Ow.ne_or how (by omega))).st0 g24)
      refine cG (base:=w.heap.size) (xss:=rows l) (yss:=[x8.cells]) el48 Z o26 Z (by simp [Aq,Au,Ar,Am,Ak]; try omega) (Ob.rd1 o25 Z) Z Z (by simp [Value.oneCell',Entry.cells,Row.cells,Blk.cells,RObj.cells]) (by omega) (by omega) (by omega) Z Z ?_
      intro w27 A28 c29 g30 ow31
      have z32:=g30.size
      refine za (.slice A28 (k + 1) c29) Z (aM (inB.n (aQ (aL (zg Z (bI (r:=(k:Int) + 1) Z Z (Dl (by omega) (by omega))) (zm (J ((k:Int) + 1)) Z (cS ?_)))))))
      have i33:=((q13.st0 g24).stO g30 o26 (by decide) (by omega))
      refine ⟨(by repeat (first | exact aJ _ _ | exact aH _ _ | refine aI ?_ Z _)),_,?_,⟨k + 1,l ++ [x8],_,_,_,_,_,_,rfl,rfl,rfl,(Cu (Ae (Ae (g3) g16) (An g24 _)) g30 o26 (by omega)),by omega,by simp [hl],by simp [rdL,hL,hr14],(by rw [rows_snoc]; exact ow31),i33⟩⟩
      omega
     ·rintro tv w18 ⟨g19,hr14⟩
      have z34:=g19.size
      refine inB.p (aT (aT (inB.p (aT (finRP.p ?_)))))
      exact ⟨(Ae (g3) g19),.inr (rdL_stop hL hr14 m (by omega))⟩
    ·refine cS (aD (aF Z (aC (aS (aS (Bo (aQ (cT (zm (.slice A1 k c1) Z (za (.slice A1 k c1) Z (cS (aB (finRP.r (v:=(.slice A1 k c1)) (Ba Z Z) ?_)))))))))))))
     have e:k = m:=by omega
     subst e
     exact ⟨l,rest,A1,c1,A2,n2,c2,rfl,(g3),by omega,hL,hl,how,hin⟩
  ·refine cB call184 (is_f _) Z Z Z ?_ ?_
   ·intro _ _ hF; exact hF.elim
   ·rintro tv _ rfl
    refine aT (finRP.p ?_)
    exact ⟨Bs _ _,.inl (by omega)⟩
theorem many_nI (w:World) (B ib rb n c:Nat) (bs:List UInt8) (A:Option Addr) (hq:In w B ib rb bs A n c) (x:Int) (hx:0 ≤ x∧x ≤ 2147483647) (most:Nat) (hmost:most ≤ 4096):RP prog 289 [.int .i64 x,.int .i64 (most:Int),(.func (.func 182) #[(.pointer (some ⟨ib,0,none⟩))] #[])] w
    (fun v w' => ∃ (l : List Int) (rest : List UInt8) (A1 : Option Addr) (c1 : Nat) (A' : Option Addr) (n' c' : Nat), v = .slice A1 x.toNat c1 ∧ w.grownBy w' (some rb) ∧ x.toNat ≤ most ∧ rdL rdN x.toNat bs = some (l, rest) ∧ l.length = x.toNat ∧ Ow w' w.heap.size 3 1 A1 c1 (ics l) ∧ In w' B ib rb rest A' n' c')
    (fun w'=>w.grownBy w' (some rb)∧(most < x.toNat ∨ rdL rdN x.toNat bs = none)):=by
  have h:=many_n w B ib rb n c bs A hq x.toNat (by omega) most hmost
  rw [Int.toNat_of_nonneg hx.1] at h
  exact h
theorem many_iI (w:World) (B ib rb n c:Nat) (bs:List UInt8) (A:Option Addr) (hq:In w B ib rb bs A n c) (x:Int) (hx:0 ≤ x∧x ≤ 2147483647) (most:Nat) (hmost:most ≤ 4096):RP prog 289 [.int .i64 x,.int .i64 (most:Int),(.func (.func 243) #[(.pointer (some ⟨ib,0,none⟩))] #[])] w
    (fun v w' => ∃ (l : List Int) (rest : List UInt8) (A1 : Option Addr) (c1 : Nat) (A' : Option Addr) (n' c' : Nat), v = .slice A1 x.toNat c1 ∧ w.grownBy w' (some rb) ∧ x.toNat ≤ most ∧ rdL rdI x.toNat bs = some (l, rest) ∧ l.length = x.toNat ∧ Ow w' w.heap.size 3 1 A1 c1 (ics l) ∧ In w' B ib rb rest A' n' c')
    (fun w'=>w.grownBy w' (some rb)∧(most < x.toNat ∨ rdL rdI x.toNat bs = none)):=by
  have h:=many_i w B ib rb n c bs A hq x.toNat (by omega) most hmost
  rw [Int.toNat_of_nonneg hx.1] at h
  exact h
set_option maxHeartbeats 1000000 in
set_option maxRecDepth 20000 in
theorem in_object (w : World) (B ib rb n c : Nat) (bs : List UInt8) (A : Option Addr) (hq : In w B ib rb bs A n c) : RP prog 259 [(.pointer (some ⟨ib, 0, none⟩))] w (fun v w' => ∃ (o : Eng.Obj) (ro : RObj) (rest : List UInt8) (A' : Option Addr) (n' c' : Nat), v = .agg ro.cells.toArray ∧ w.grownBy w' (some rb) ∧ rdObj bs = some (o, rest) ∧ ObjO w' w.heap.size ro o ∧ In w' B ib rb rest A' n' c') (fun w' => w.grownBy w' (some rb) ∧ rdObj bs = none) := by
  have hn:=hq.rdr.len
  have hc:=hq.rdr.cap
  have hm:=hq.rdr.max
  have hne:=hq.ne
  have hlt:=hq.rdr.lt
  have hli:=hq.lti
  have hsr:=hq.rdr.ob.lt
  have hsi:=hq.inb.lt
  refine RP.body func259 Z Z Z ?_
  refine cT (bG (cs:=[(J 0),(J 0),(J 0),(.slice none 0 0),(.slice none 0 0)]) zeroValue136 Z Z Z ?_)
  intro w1 b2 hb3 hz4 g5 o6
  refine cS (cT (bG (cs:=[(J 0),(J 0),(J 0),(.slice none 0 0),(.slice none 0 0)]) zeroValue136 Z Z Z ?_))
  intro w7 b8 hb9 hz10 g11 o12
  refine cS (cT (zm (.pointer (some ⟨ib,0,none⟩)) Z ?_))
  have i13:=((hq.st0 g5).st0 g11)
  refine cB call182 (in_n _ _ _ _ _ _ _ _ i13) Z Z Z ?_ ?_
  ·rintro _ w23 ⟨x14,rest15,A16,n17,c18,rfl,g24,hr20,q19⟩; have z25:=g24.size; have hv22:=Dh hr20
   refine zg Z (fa136_0 (b:=⟨b8,0,none⟩) Z Z) ?_
   have o28:=(o12.st1 g24 (by omega))
   refine bE (vs:=[(J x14)]) (cs':=[(J x14),(J 0),(J 0),(.slice none 0 0),(.slice none 0 0)]) sizeOf3 o28 Z Z Z Z Z Z ?_
   intro w29 hz30 g31 o32
   refine cS (cT (zm (.pointer (some ⟨ib,0,none⟩)) Z ?_))
   have i33:=(q19.st1 g31 (by omega) (by omega) (by omega))
   refine cB call182 (in_n _ _ _ _ _ _ _ _ i33) Z Z Z ?_ ?_
   ·rintro _ w43 ⟨x34,rest35,A36,n37,c38,rfl,g44,hr40,q39⟩; have z45:=g44.size; have hv42:=Dh hr40
    refine zg Z (fa136_1 (b:=⟨b8,1,none⟩) Z Z) (zg Z (Cs (b:=⟨b8,1,none⟩) Z Z) ?_)
    have o48:=(o32.st1 g44 (by omega))
    refine bE (vs:=[(J x34)]) (cs':=[(J x14),(J x34),(J 0),(.slice none 0 0),(.slice none 0 0)]) sizeOf3 o48 Z Z Z Z Z Z ?_
    intro w49 hz50 g51 o52
    refine cS (cT (zm (.pointer (some ⟨ib,0,none⟩)) Z ?_))
    have i53:=(q39.st1 g51 (by omega) (by omega) (by omega))
    refine cB call182 (in_n _ _ _ _ _ _ _ _ i53) Z Z Z ?_ ?_
    ·rintro _ w63 ⟨x54,rest55,A56,n57,c58,rfl,g65,hr60,q59⟩; have z66:=g65.size; have hv62:=Dh hr60
     refine za (J x54) Z (cS (cT (zm (.pointer (some ⟨ib,0,none⟩)) Z ?_)))
     refine cB call182 (in_n _ _ _ _ _ _ _ _ q59) Z Z Z ?_ ?_
     ·rintro _ w78 ⟨x69,rest70,A71,n72,c73,rfl,g79,hr75,q74⟩; have z80:=g79.size; have hv77:=Dh hr75
      refine za (J x69) Z (cS (cT (zm (J x54) Z (zm (J x69) Z ?_))))
      have nb83:=needI_bd x54 x69
      refine aU call203 (need_ _ x54 x69 (by omega) (by omega)) Z Z Z ?_
      rintro _ w84 ⟨rfl,g85⟩
      have z86:=g85.size
      refine zg Z (fa136_1 (b:=⟨b8,1,none⟩) Z Z) (zg Z (Cg (b:=⟨b8,2,none⟩) Z Z) ?_)
      have o87:=(((o52.st1 g65 (by omega)).st1 g79 (by omega)).st0 g85)
      refine bE (vs:=[(J (By x54 x69))]) (cs':=[(J x14),(J x34),(J (By x54 x69)),(.slice none 0 0),(.slice none 0 0)]) sizeOf3 o87 Z Z Z Z Z Z ?_
      intro w88 hz89 g90 o91
      refine cS (cT (zg Z (fa136_1 (b:=⟨b8,1,none⟩) Z Z) (zg Z (Cg (b:=⟨b8,2,none⟩) Z Z) (zl (J (By x54 x69)) Bw o91 Z ?_))))
      refine zc ((0:Int) ≤ (By x54 x69:Int)) Z (fun r hr=>bO Z Z hr) (fun h92=>?_) (fun h92=>?_)
      ·refine aU call184 (is_t _) Z Z Z ?_
       rintro _ _ ⟨rfl,rfl⟩
       refine cS (cT (zm (J x54) Z (zm (.pointer (some ⟨ib,0,none⟩)) Z (zg Z (Ex.mkf (v:=(.func (.func 243) #[(.pointer (some ⟨ib,0,none⟩))] #[])) Z) ?_))))
       have i93:=((q74.st0 g85).st1 g90 (by omega) (by omega) (by omega))
       refine cB call289 (many_iI _ _ _ _ _ _ _ _ i93 x54 (by omega) 32 (by omega)) Z Z Z ?_ ?_
       ·rintro _ w106 ⟨l94,rest95,A96,c97,A98,n99,c100,rfl,g107,hmo101,hr102,hl103,ow104,q105⟩; have z108:=g107.size
        refine zg Z (fa136_2 (b:=⟨b8,3,none⟩) Z Z) ?_
        have o111:=(o91.st1 g107 (by omega))
        refine bE (vs:=[(.slice A96 x54.toNat c97)]) (cs':=[(J x14),(J x34),(J (By x54 x69)),(.slice A96 x54.toNat c97),(.slice none 0 0)]) sizeOf134 o111 Z Z Z Z Z Z ?_
        intro w112 hz113 g114 o115
        refine cS (cT (zm (J x69) Z (zm (.pointer (some ⟨ib,0,none⟩)) Z (zg Z (Ex.mkf (v:=(.func (.func 182) #[(.pointer (some ⟨ib,0,none⟩))] #[])) Z) ?_))))
        have i116:=(q105.st1 g114 (by omega) (by omega) (by omega))
        refine cB call289 (many_nI _ _ _ _ _ _ _ _ i116 x69 (by omega) 16 (by omega)) Z Z Z ?_ ?_
        ·rintro _ w129 ⟨l117,rest118,A119,c120,A121,n122,c123,rfl,g130,hmo124,hr125,hl126,ow127,q128⟩; have z131:=g130.size
         refine zg Z (fa136_3 (b:=⟨b8,4,none⟩) Z Z) ?_
         have o134:=(o115.st1 g130 (by omega))
         refine bE (vs:=[(.slice A119 x69.toNat c120)]) (cs':=[(J x14),(J x34),(J (By x54 x69)),(.slice A96 x54.toNat c97),(.slice A119 x69.toNat c120)]) sizeOf134 o134 Z Z Z Z Z Z ?_
         intro w135 hz136 g137 o138
         refine cS (cT (zg Z (bW Z (Aj (cs:=[(J x14),(J x34),(J (By x54 x69)),(.slice A96 x54.toNat c97),(.slice A119 x69.toNat c120)]) wh136 o138.cl)) ?_))
         have o139:=(((((((((((((o6.st0 g11).st1 g24 (by omega)).st1 g31 (by omega)).st1 g44 (by omega)).st1 g51 (by omega)).st1 g65 (by omega)).st1 g79 (by omega)).st0 g85).st1 g90 (by omega)).st1 g107 (by omega)).st1 g114 (by omega)).st1 g130 (by omega)).st1 g137 (by omega))
         refine bE (vs:=[(J x14),(J x34),(J (By x54 x69)),(.slice A96 x54.toNat c97),(.slice A119 x69.toNat c120)]) (cs':=[(J x14),(J x34),(J (By x54 x69)),(.slice A96 x54.toNat c97),(.slice A119 x69.toNat c120)]) sizeOf136 o139 Z Z Z Z Z Z ?_
         intro w140 hz141 g142 o143
         refine cS (aB (finRP.r (v:=(.agg ([(J x14),(J x34),(J (By x54 x69)),(.slice A96 x54.toNat c97),(.slice A119 x69.toNat c120)]).toArray)) (resv1 Z (cA Z (Aj (cs:=[(J x14),(J x34),(J (By x54 x69)),(.slice A96 x54.toNat c97),(.slice A119 x69.toNat c120)]) wh136 o143.cl))) ?_))
         have i144:=((q128.st1 g137 (by omega) (by omega) (by omega)).st1 g142 (by omega) (by omega) (by omega))
         have o145:=((((ow104.st1 g114 (Ow.ne_or ow104 (by omega))).st1 g130 (Ow.ne_or ow104 (by omega))).st1 g137 (Ow.ne_or ow104 (by omega))).st1 g142 (Ow.ne_or ow104 (by omega)))
         have o146:=((ow127.st1 g137 (Ow.ne_or ow127 (by omega))).st1 g142 (Ow.ne_or ow127 (by omega)))
         exact ⟨⟨x14,⟨x34,By x54 x69⟩,l94,l117⟩,⟨x14,⟨x34,By x54 x69⟩,⟨A96,x54.toNat,c97⟩,⟨A119,x69.toNat,c120⟩⟩,_,_,_,_,rfl,(Ah (Ah (Ae (Ah (Ae (Ah (Ae (Ae (Ae (Ah (Ae (Ah (Ae (Ae (An g5 _) (An g11 _)) g24) g31 (by omega)) g44) g51 (by omega)) g65) g79) (An g85 _)) g90 (by omega)) g107) g114 (by omega)) g130) g137 (by omega)) g142 (by omega)),by simp [rdObj,hr20,hr40,hr60,hr75,hr102,hr125]; omega,⟨Z,rfl,hl103.symm,hl126.symm,o145.weak (by omega),o146.weak (by omega)⟩,i144⟩
        ·rintro tv w132 ⟨g133,hr125⟩
         have z147:=g133.size
         refine aT (finRP.p ?_)
         have hng:=needI_rng (by assumption)
         rcases hr125 with hbad | hbad
         ·omega
         ·exact ⟨(Ae (Ah (Ae (Ah (Ae (Ae (Ae (Ah (Ae (Ah (Ae (Ae (An g5 _) (An g11 _)) g24) g31 (by omega)) g44) g51 (by omega)) g65) g79) (An g85 _)) g90 (by omega)) g107) g114 (by omega)) g133),by simp [rdObj,hr20,hr40,hr60,hr75,hr102,hbad]⟩
       ·rintro tv w109 ⟨g110,hr102⟩
        have z148:=g110.size
        refine aT (finRP.p ?_)
        have hng:=needI_rng (by assumption)
        rcases hr102 with hbad | hbad
        ·omega
        ·exact ⟨(Ae (Ah (Ae (Ae (Ae (Ah (Ae (Ah (Ae (Ae (An g5 _) (An g11 _)) g24) g31 (by omega)) g44) g51 (by omega)) g65) g79) (An g85 _)) g90 (by omega)) g110),by simp [rdObj,hr20,hr40,hr60,hr75,hbad]⟩
      ·refine cB call184 (is_f _) Z Z Z ?_ ?_
       ·intro _ _ hF; exact hF.elim
       ·rintro tv _ rfl
        refine aT (finRP.p ?_)
        exact ⟨(Ah (Ae (Ae (Ae (Ah (Ae (Ah (Ae (Ae (An g5 _) (An g11 _)) g24) g31 (by omega)) g44) g51 (by omega)) g65) g79) (An g85 _)) g90 (by omega)),by simp [rdObj,hr20,hr40,hr60,hr75]; omega⟩
     ·rintro tv w81 ⟨g82,hr75⟩
      have z151:=g82.size
      refine aT (finRP.p ?_)
      exact ⟨(Ae (Ae (Ah (Ae (Ah (Ae (Ae (An g5 _) (An g11 _)) g24) g31 (by omega)) g44) g51 (by omega)) g65) g82),by simp [rdObj,hr20,hr40,hr60,hr75]⟩
    ·rintro tv w67 ⟨g68,hr60⟩
     have z152:=g68.size
     refine aT (finRP.p ?_)
     exact ⟨(Ae (Ah (Ae (Ah (Ae (Ae (An g5 _) (An g11 _)) g24) g31 (by omega)) g44) g51 (by omega)) g68),by simp [rdObj,hr20,hr40,hr60]⟩
   ·rintro tv w46 ⟨g47,hr40⟩
    have z153:=g47.size
    refine aT (finRP.p ?_)
    exact ⟨(Ae (Ah (Ae (Ae (An g5 _) (An g11 _)) g24) g31 (by omega)) g47),by simp [rdObj,hr20,hr40]⟩
  ·rintro tv w26 ⟨g27,hr20⟩
   have z154:=g27.size
   refine aT (finRP.p ?_)
   exact ⟨(Ae (Ae (An g5 _) (An g11 _)) g27),by simp [rdObj,hr20]⟩
end Go.Proofs.YtfokljnhllflbaaGreat
namespace Go.Proofs.YtfokljnhllflbaaGreat
open Go Go.Eng Go.RowKit Go.Proofs.Tryz
set_option maxHeartbeats 400000 in
set_option maxRecDepth 20000 in
theorem many_obj (w : World) (B ib rb n c : Nat) (bs : List UInt8) (A : Option Addr) (hq : In w B ib rb bs A n c) (m : Nat) (hm2 : m ≤ 2147483647) (most : Nat) (hmost : most ≤ 4096) : RP prog 258 [(J (m : Int)), (J (most : Int)), (.func (.func 259) #[(.pointer (some ⟨ib, 0, none⟩))] #[])] w (fun v w' => ∃ (l : List Eng.Obj) (lr : List RObj) (rest : List UInt8) (A1 : Option Addr) (c1 : Nat) (A' : Option Addr) (n' c' : Nat), v = .slice A1 m c1 ∧ w.grownBy w' (some rb) ∧ m ≤ most ∧ rdL rdObj m bs = some (l, rest) ∧ lr.length = m ∧ Ow w' w.heap.size 136 5 A1 c1 (Cp lr) ∧ ObjsO w' w.heap.size lr l ∧ In w' B ib rb rest A' n' c') (fun w' => w.grownBy w' (some rb) ∧ (most < m ∨ rdL rdObj m bs = none)) := by
  have hn:=hq.rdr.len
  have hc:=hq.rdr.cap
  have hm:=hq.rdr.max
  have hne:=hq.ne
  have hlt:=hq.rdr.lt
  have hli:=hq.lti
  have hsr:=hq.rdr.ob.lt
  have hsi:=hq.inb.lt
  refine RP.body func258 Z Z Z ?_
  refine cT (za (.slice none 0 0) Z (cS (cT (zm (J (m:Int)) Z (zm (J (most:Int)) Z ?_)))))
  refine zc (((m:Int):Int) ≤ ((most:Int):Int)) Z (fun r hr=>bM Z Z hr) (fun h1=>?_) (fun h1=>?_)
  ·refine aU call184 (is_t _) Z Z Z ?_
   rintro _ _ ⟨rfl,rfl⟩
   refine cS (cT (za (.slice none 0 0) Z (cS (aD (cT (zm (J (m:Int)) Z (zm (J 0) Z (cS (aG ?_)))))))))
   refine aK (fun t=>Nat.beq t 7 || (Nat.ble 13 t && Nat.ble t 20)) (fun n ρ wl => ∃ (k:Nat) (l:List Eng.Obj) (lr:List RObj) (rest:List UInt8) (A1 A2:Option Addr) (c1 n2 c2:Nat),ρ 13 = (J (k:Int))∧ρ 7 = (.slice A1 k c1)∧n = m - k∧World.grownBy w wl (some rb)∧k ≤ m∧lr.length = k∧rdL rdObj k bs = some (l,rest)∧Ow wl w.heap.size 136 5 A1 c1 (Cp lr)∧ObjsO wl w.heap.size lr l∧In wl B ib rb rest A2 n2 c2) (m) ?aa0 ?bb0
   case aa0=>exact ⟨0,[],[],bs,none,A,0,n,c,rfl,rfl,rfl,Bs _ _,Nat.zero_le _,rfl,rfl,Ow.nil_ _ _ _ _,ObjsO.nil_ _ _,hq⟩
   case bb0 =>
    rintro n4 ρ0 w2 ho5 ⟨k,l,lr,rest,A1,A2,c1,n2,c2,hs0_13,hs0_7,hn0,g3,hk,hl,hL,how,hos,hin⟩
    obtain ⟨j0,rfl⟩:=ho5.shape2 hs0_13 hs0_7
    clear ho5 hs0_13 hs0_7
    subst hn0
    have z6:=g3.size
    refine cT ?_
    refine zc (((k:Int):Int) < ((m:Int):Int)) Z (fun r hr=>bL Z Z hr) (fun h7=>?_) (fun h7=>?_)
    ·refine cS (aD (aE Z (aA (aQ (aD (aG (aL (zm (.slice A1 k c1) Z (zm (.func (.func 259) #[(.pointer (some ⟨ib,0,none⟩))] #[]) Z ?_)))))))))
     refine cC call259 Z (in_object _ _ _ _ _ _ _ _ hin) Z Z Z ?_ ?_
     ·rintro _ w17 ⟨o8,ro9,rest10,A11,n12,c13,rfl,g18,hr15,oo16,q14⟩; have z19:=g18.size
      refine cF (cs:=ro9.cells) underlying43 sizeOf136 ze43 Z Z Z (by decide) Z Z Z ?_
      intro w22 b23 hb24 hz25 g26 o27
      have o28:=((how.st1 g18 (Ow.ne_or how (by omega))).st0 g26)
      refine cG (base:=w.heap.size) (xss:=Cp lr) (yss:=[ro9.cells]) el43 Z o28 Z (by simp [Aq,Au,Ar,Am,Ak]; try omega) (Ob.rd1 o27 Z) Z Z (by simp [Value.oneCell',Entry.cells,Row.cells,Blk.cells,RObj.cells]) (by omega) (by omega) (by omega) Z Z ?_
      intro w29 A30 c31 g32 ow33
      have z34:=g32.size
      refine za (.slice A30 (k + 1) c31) Z (aM (inB.n (aQ (aL (zg Z (bI (r:=(k:Int) + 1) Z Z (Dl (by omega) (by omega))) (zm (J ((k:Int) + 1)) Z (cS ?_)))))))
      have i35:=((q14.st0 g26).stO g32 o28 (by decide) (by omega))
      have o36:=(((hos.stX hos g18 (by omega)).st0 g26).stO g32 o28 (by decide))
      have o37:=((oo16.st0 g26).stO g32 o28 (by decide))
      refine ⟨(by repeat (first | exact aJ _ _ | exact aH _ _ | refine aI ?_ Z _)),_,?_,⟨k + 1,l ++ [o8],lr ++ [ro9],_,_,_,_,_,_,rfl,rfl,rfl,(Cu (Ae (Ae (g3) g18) (An g26 _)) g32 o28 (by omega)),by omega,by simp [hl],by simp [rdL,hL,hr15],(by rw [robjs_snoc]; exact ow33),o36.snoc (o37.weak (by omega)),i35⟩⟩
      omega
     ·rintro tv w20 ⟨g21,hr15⟩
      have z38:=g21.size
      refine inB.p (aT (aT (inB.p (aT (finRP.p ?_)))))
      exact ⟨(Ae (g3) g21),.inr (rdL_stop hL hr15 m (by omega))⟩
    ·refine cS (aD (aF Z (aC (aS (aS (Bo (aQ (cT (zm (.slice A1 k c1) Z (za (.slice A1 k c1) Z (cS (aB (finRP.r (v:=(.slice A1 k c1)) (Ba Z Z) ?_)))))))))))))
     have e:k = m:=by omega
     subst e
     exact ⟨l,lr,rest,A1,c1,A2,n2,c2,rfl,(g3),by omega,hL,hl,how,hos,hin⟩
  ·refine cB call184 (is_f _) Z Z Z ?_ ?_
   ·intro _ _ hF; exact hF.elim
   ·rintro tv _ rfl
    refine aT (finRP.p ?_)
    exact ⟨Bs _ _,.inl (by omega)⟩
theorem many_objI (w : World) (B ib rb n c : Nat) (bs : List UInt8) (A : Option Addr) (hq : In w B ib rb bs A n c) (x : Int) (hx : 0 ≤ x ∧ x ≤ 2147483647) (most : Nat) (hmost : most ≤ 4096) : RP prog 258 [.int .i64 x, .int .i64 (most : Int), (.func (.func 259) #[(.pointer (some ⟨ib, 0, none⟩))] #[])] w (fun v w' => ∃ (l : List Eng.Obj) (lr : List RObj) (rest : List UInt8) (A1 : Option Addr) (c1 : Nat) (A' : Option Addr) (n' c' : Nat), v = .slice A1 x.toNat c1 ∧ w.grownBy w' (some rb) ∧ x.toNat ≤ most ∧ rdL rdObj x.toNat bs = some (l, rest) ∧ lr.length = x.toNat ∧ Ow w' w.heap.size 136 5 A1 c1 (Cp lr) ∧ ObjsO w' w.heap.size lr l ∧ In w' B ib rb rest A' n' c') (fun w' => w.grownBy w' (some rb) ∧ (most < x.toNat ∨ rdL rdObj x.toNat bs = none)) := by
  have h:=many_obj w B ib rb n c bs A hq x.toNat (by omega) most hmost
  rw [Int.toNat_of_nonneg hx.1] at h
  exact h
theorem many_rowI (w:World) (B ib rb n c:Nat) (bs:List UInt8) (A:Option Addr) (hq:In w B ib rb bs A n c) (x:Int) (hx:0 ≤ x∧x ≤ 2147483647) (most:Nat) (hmost:most ≤ 4096):RP prog 181 [.int .i64 x,.int .i64 (most:Int),(.func (.func 183) #[(.pointer (some ⟨ib,0,none⟩))] #[])] w
    (fun v w' => ∃ (l : List Row) (rest : List UInt8) (A1 : Option Addr) (c1 : Nat) (A' : Option Addr) (n' c' : Nat), v = .slice A1 x.toNat c1 ∧ w.grownBy w' (some rb) ∧ x.toNat ≤ most ∧ rdL rdRow x.toNat bs = some (l, rest) ∧ l.length = x.toNat ∧ Ow w' w.heap.size 123 4 A1 c1 (rows l) ∧ In w' B ib rb rest A' n' c')
    (fun w'=>w.grownBy w' (some rb)∧(most < x.toNat ∨ rdL rdRow x.toNat bs = none)):=by
  have h:=many_row w B ib rb n c bs A hq x.toNat (by omega) most hmost
  rw [Int.toNat_of_nonneg hx.1] at h
  exact h
end Go.Proofs.YtfokljnhllflbaaGreat
namespace Go.Proofs.YtfokljnhllflbaaGreat
open Go Go.Shelf Go.RowKit Go.Lib Go.Sort Go.Proofs.Tryz
def sortBlk_ren:Go.Shelf.Ren:=⟨fun | 6=>204 | 15=>252 | 14=>251 | 28=>277 | 29=>278 | 20=>269 | 21=>270 | 22=>271 | 23=>272 | 24=>273 | 25=>274 | 26=>275 | 27=>276 | 46=>297 | 47=>298 | 48=>299 | 49=>300 | 50=>301 | 57=>318 | n=>n,fun | 22=>45 | 24=>133 | 25=>226 | 3=>3 | 39=>188 | 0=>0 | 53=>286 | 55=>234 | 4=>4 | 46=>280 | 45=>279 | 50=>127 | 5=>5 | 9=>9 | 66=>311 | 70=>232 | 76=>333 | 77=>334 | n=>n,fun | n=>n⟩
theorem sortBlk:Go.Proofs.SlLaysF0.n6 prog sortBlk_ren := {
  mixed:=by kernel_rfl
  f6:=⟨f204.name,by decide,func204.trans (congrArg some (by kernel_rfl))⟩
  f14:=⟨f251.name,by decide,func251.trans (congrArg some (by kernel_rfl))⟩
  f15:=func252.trans (congrArg some (by kernel_rfl))
  f20:=⟨f269.name,by decide,func269.trans (congrArg some (by kernel_rfl))⟩
  f21:=⟨f270.name,by decide,func270.trans (congrArg some (by kernel_rfl))⟩
  f22:=⟨f271.name,by decide,func271.trans (congrArg some (by kernel_rfl))⟩
  f23:=⟨f272.name,by decide,func272.trans (congrArg some (by kernel_rfl))⟩
  f24:=⟨f273.name,by decide,func273.trans (congrArg some (by kernel_rfl))⟩
  f25:=⟨f274.name,by decide,func274.trans (congrArg some (by kernel_rfl))⟩
  f26:=⟨f275.name,by decide,func275.trans (congrArg some (by kernel_rfl))⟩
  f27:=⟨f276.name,by decide,func276.trans (congrArg some (by kernel_rfl))⟩
  f28:=func277.trans (congrArg some (by kernel_rfl))
  f29:=func278.trans (congrArg some (by kernel_rfl))
  f46:=⟨f297.name,by decide,func297.trans (congrArg some (by kernel_rfl))⟩
  f47:=func298.trans (congrArg some (by kernel_rfl))
  f48:=func299.trans (congrArg some (by kernel_rfl))
  f49:=⟨f300.name,by decide,func300.trans (congrArg some (by kernel_rfl))⟩
  f50:=⟨f301.name,by decide,func301.trans (congrArg some (by kernel_rfl))⟩
  f57:=⟨f318.name,by decide,func318.trans (congrArg some (by kernel_rfl))⟩
  t0:=underlying0
  a0:=isAgg0
  z0:=sizeOf0
  v0:=zeroValue0
  t3:=underlying3
  a3:=isAgg3
  z3:=sizeOf3
  v3:=zeroValue3
  t4:=underlying4
  a4:=isAgg4
  z4:=sizeOf4
  v4:=zeroValue4
  t5:=underlying5
  a5:=isAgg5
  z5:=sizeOf5
  v5:=zeroValue5
  t9:=underlying9
  a9:=isAgg9
  z9:=sizeOf9
  v9:=zeroValue9
  t22:=underlying45
  a22:=isAgg45
  z22:=sizeOf45
  v22:=zeroValue45
  t25:=underlying226
  a25:=isAgg226
  z25:=sizeOf226
  v25:=zeroValue226
  t39:=underlying188
  a39:=isAgg188
  z39:=sizeOf188
  v39:=zeroValue188
  t45:=underlying279
  a45:=isAgg279
  z45:=sizeOf279
  v45:=zeroValue279
  t46:=underlying280
  a46:=isAgg280
  z46:=sizeOf280
  v46:=zeroValue280
  t50:=underlying127
  a50:=isAgg127
  z50:=sizeOf127
  v50:=zeroValue127
  t53:=underlying286
  a53:=isAgg286
  z53:=sizeOf286
  v53:=zeroValue286
  t55:=underlying234
  a55:=isAgg234
  z55:=sizeOf234
  v55:=zeroValue234
  t66:=underlying311
  a66:=isAgg311
  z66:=sizeOf311
  v66:=zeroValue311
  t70:=underlying232
  a70:=isAgg232
  z70:=sizeOf232
  v70:=zeroValue232
  t76:=underlying333
  a76:=isAgg333
  z76:=sizeOf333
  v76:=zeroValue333
  t77:=underlying334
  a77:=isAgg334
  z77:=sizeOf334
  v77:=zeroValue334 }
def cmpInt_ren:Go.Shelf.Ren:=⟨fun | 5=>102 | 7=>163 | n=>n,fun | 22=>3 | 3=>3 | 4=>4 | n=>n,fun | n=>n⟩
theorem cmpInt:Go.Proofs.SlLaysC2.n5 prog cmpInt_ren := {
  mixed:=by kernel_rfl
  f5:=⟨f102.name,by decide,func102.trans (congrArg some (by kernel_rfl))⟩
  f7:=⟨f163.name,by decide,func163.trans (congrArg some (by kernel_rfl))⟩
  t3:=underlying3
  a3:=isAgg3
  z3:=sizeOf3
  v3:=zeroValue3
  t4:=underlying4
  a4:=isAgg4
  z4:=sizeOf4
  v4:=zeroValue4
  t22:=underlying3
  a22:=isAgg3
  z22:=sizeOf3
  v22:=zeroValue3 }
end Go.Proofs.YtfokljnhllflbaaGreat
namespace Go.Proofs.YtfokljnhllflbaaGreat
open Go Go.Shelf Go.RowKit Go.Lib Go.Sort Go.Eng Go.Proofs.Tryz
instance:Inhabited Blk:=⟨⟨0,0⟩⟩
def cmpB (x y:Blk):Int:=Lib.compareInt x.at_ y.at_
set_option maxHeartbeats 1000000 in
theorem blkCmp (x y:Blk) (W:World):Calls prog 205 #[.agg x.cells.toArray,.agg y.cells.toArray] W fun e w'=>e = .returned (.int .i64 (cmpB x y)) ∧ ∃ q os',w' = grow (W.drewN q) os':=by
  obtain ⟨x1,x2⟩:=x
  obtain ⟨y1,y2⟩:=y
  show Calls prog 205 #[.agg #[.int .i64 x1,.int .i64 x2],.agg #[.int .i64 y1,.int .i64 y2]] W fun e w'=>e = .returned (.int .i64 (Lib.compareInt x1 y1)) ∧ ∃ q os',w' = grow (W.drewN q) os'
  have hcon:=fun W'=>AnyG.cmp_Compare_int cmpInt x1 y1 W'
  change ∀ W',Calls prog 102 _ _ _ at hcon
  generalize Lib.compareInt x1 y1 = r at hcon ⊢
  go_enter func205,ntmps205
  go_wp2_with (go_at_call 102; refine (hcon _).mono ?_; rintro e w' ⟨rfl,rfl⟩)
  go_ret
  exact ⟨Z,0,_,by rw [alloc_eq_grow,alloc_eq_grow,grow_grow]; rfl⟩
theorem ltB (x y:Blk):ltOf cmpB x y = decide (x.at_ < y.at_):=by
  unfold ltOf cmpB Lib.compareInt
  by_cases h1:x.at_ < y.at_
  · simp [h1]
  · by_cases h2:y.at_ < x.at_ <;> simp [h1,h2]
theorem swoB:SWO (ltOf cmpB) where
  irrefl x:=by rw [ltB]; simp
  trans x y z h1 h2:=by rw [ltB] at *; simp at *; omega
  ntrans x y z h1 h2:=by rw [ltB] at *; simp at *; omega
theorem heap_sortedK {w:World} {g n:Nat} {os:Array Obj} {cur:Array Value} {e:TypeId} {fr:Nat × Nat} (F:Array Value) (hb:w.heap[g]? = some (.cells cur e fr)) :
    (grow (Go.Sort.putRow id (Sort.ahead w n) g 0 F) os).heap[g]? = some (.cells (putCells id 0 F cur) e fr):=by
  have hg:g < w.heap.size:=(Array.getElem?_eq_some_iff.1 hb).1
  rw [heap_grow_old _ _ (by simpa using hg)]
  simp [Go.Sort.putRow,mapBlock,Sort.ahead,Array.getElem?_modify,hb,onCells]
theorem grownBy_sortedK {w:World} {g n:Nat} {os:Array Obj} (F:Array Value):w.grownBy (grow (Go.Sort.putRow id (Sort.ahead w n) g 0 F) os) (some g):=by
  refine ⟨Z,rfl,rfl,by simp,fun k hk hne=>?_⟩
  rw [heap_grow_old _ _ (by simpa using hk)]
  have:g ≠ k:=fun e=>hne (by rw [e])
  simp [Go.Sort.putRow,mapBlock,Sort.ahead,Array.getElem?_modify,this]
theorem take_putCellsK (cur F:Array Value) (h:F.size ≤ cur.size):(putCells id 0 F cur).toList.take F.size = F.toList:=by
  apply List.ext_getElem?
  intro j
  by_cases hj:j < F.size
  · rw [List.getElem?_take_of_lt hj,Array.getElem?_toList]
    simp [putCells,hj,show j < cur.size by omega]
  · rw [List.getElem?_take_eq_none (by omega),List.getElem?_eq_none (by simp; omega)]
theorem flat_blks (l:List Blk):flatK Blk.cells 2 l.toArray = ((Cq l).flatten).toArray:=by
  have hall : ∀ x ∈ Cq l,x.length = 2:=by
    intro x hx
    obtain ⟨b,_,rfl⟩:=List.mem_map.1 hx
    rfl
  have hlen:(Cq l).flatten.length = l.length * 2:=by
    clear hall
    induction l with
    | nil=>rfl
    | cons b l ih=>simp only [Cq,List.map_cons,List.flatten_cons,List.length_append,List.length_cons] at ih ⊢; rw [ih]; simp only [Blk.cells,List.length_cons,List.length_nil]; omega
  apply Array.ext'
  apply List.ext_getElem?
  intro t
  rcases Nat.lt_or_ge t (l.length * 2) with ht | ht
  · have hj:t / 2 < l.length:=by omega
    have hb:l[t / 2]? = some l[t / 2]:=List.getElem?_eq_getElem hj
    have hm:t % 2 < l[t / 2].cells.length:=by simp only [Blk.cells,List.length_cons,List.length_nil]; omega
    have h1:=flat_get hall (Ca hb) (List.getElem?_eq_getElem hm)
    rw [show t / 2 * 2 + t % 2 = t by omega] at h1
    rw [h1]
    simp only [flatK,Array.toList_map,Array.toList_range,List.getElem?_map]
    rw [List.getElem?_range (by simpa using ht)]
    simp only [Option.map_some]
    congr 1
    simp [hj]
    rw [List.getElem?_eq_getElem (by simpa using hm)]
    rfl
  · rw [List.getElem?_eq_none (by rw [Array.length_toList,size_flatK]; simpa using ht),List.getElem?_eq_none (by simpa [hlen] using ht)]
theorem sorted_of {l:List Blk} {d:Array Blk} (h:SortedIn (ltOf cmpB) 0 d.size d) (hd:d.toList = l):l.Pairwise (fun x y=>x.at_ ≤ y.at_):=by
  subst hd
  rw [List.pairwise_iff_getElem]
  intro i j hi hj hij
  have h1:=h i j (Nat.zero_le _) hij (by simpa using hj)
  rw [ltB] at h1
  have hi':i < d.size:=by simpa using hi
  have hj':j < d.size:=by simpa using hj
  rw [getElem!_pos d i hi',getElem!_pos d j hj'] at h1
  simp only [decide_eq_false_iff_not,Int.not_lt] at h1
  simpa using h1
theorem perm_of {l:List Blk} {d:Array Blk} (h:PermIn 0 l.toArray.size l.toArray d):d.toList.Perm l:=by
  have h1:=h.2.2
  have e1:d.size = l.length:=by simpa using h.1
  have e2:(d.extract 0 l.toArray.size) = d:=by rw [show l.toArray.size = d.size by simp [e1]]; simp
  rw [e2] at h1
  simpa using h1
set_option maxHeartbeats 1000000 in
theorem sortBlocks (w:World) (base g c:Nat) (l:List Blk) (own:Ow w base 133 2 (some ⟨g,0,none⟩) c (Cq l)) (hsz:l.length < 4611686018427387904) :
    Ret prog 204 [.slice (some ⟨g, 0, none⟩) l.length c, .func (.func 205) #[] #[]] w fun v w' => v = .tuple #[] ∧ w.grownBy w' (some g) ∧ ∃ l' : List Blk, l'.Perm l ∧ l'.Pairwise (fun x y => x.at_ ≤ y.at_) ∧ Ow w' base 133 2 (some ⟨g, 0, none⟩) c (Cq l') := by
  rcases own.own.2 with ⟨h0,_⟩ | ⟨g',cap,cur,hv,hbg,hb,hnc,hcm,hcs,htake⟩
  · cases h0
  injection hv with h1 h2 h3
  injection h1 with h1
  injection h1 with h1 _ _
  subst h1; subst h3
  have hlenF:(Cq l).flatten.length = l.length * 2:=by rw [own.own.1,Am]
  rw [Am] at hnc htake
  have hH:HoldsK Blk.cells 2 w g 0 l.toArray:=by
    intro j hj
    rw [flat_blks] at hj ⊢
    have hj':j < (Cq l).flatten.length:=by simpa using hj
    refine ⟨?_,by simp [World.frozen?,hb]⟩
    have := own.own.cells (g := g) rfl j _ (List.getElem?_eq_getElem hj')
    rw [add_lit,Nat.zero_add] at this
    rw [Nat.zero_add,this]
    simp
    rw [List.getElem?_eq_getElem hj']
    rfl
  have hblk:g < w.heap.size:=(Array.getElem?_eq_some_iff.1 hb).1
  have eg : ∀ args w,(callFunc 205 args).run prog w = .ok (.enter 205 args) w:=call205
  have hcon:=AnyQ.slices_SortFunc sortBlk 2 isAgg133 sizeOf133 Blk.cells (fun _=>rfl) (fun x v hv=>by simp [Blk.cells] at hv; rcases hv with rfl | rfl <;> rfl) cmpB swoB 205 #[] g 0 c l.toArray w eg
    (fun m os dk hs x y=>by simpa using blkCmp x y _) hH hblk (by simpa using hsz)
  change Calls prog 204 _ _ _ at hcon
  refine Calls.mono hcon ?_
  rintro e w' ⟨rfl,d',n,os,hp,hs,rfl⟩
  have hlen:d'.toList.length = l.length:=by have:=hp.1; simpa using this
  refine ⟨_, Z, Z, grownBy_sortedK _, d'.toList, perm_of hp, sorted_of (d := d') (by have h1 := hp.1; rw [h1]; exact hs) Z, ?_⟩
  have hF:flatK Blk.cells 2 d' = ((Cq d'.toList).flatten).toArray:=by have:=flat_blks d'.toList; simpa using this
  have hFs:(Cq d'.toList).flatten.length = l.length * 2:=by
    have:=size_flatK Blk.cells 2 d'
    rw [hF] at this
    have h2:d'.size = l.length:=by simpa using hlen
    simpa [h2] using this
  refine ⟨⟨by rw [hFs, Am, hlen], .inr ⟨g, c, putCells id 0 (flatK Blk.cells 2 d') cur, rfl, hbg, ?_, by rw [Am, hlen]; exact hnc, hcm, by simp [putCells, hcs], ?_⟩⟩, fun x hx => by obtain ⟨b, _, rfl⟩ := List.mem_map.1 hx; rfl⟩
  · exact heap_sortedK _ hb
  · rw [Am,hlen]
    have := take_putCellsK cur (flatK Blk.cells 2 d') (by
      rw [hF,hcs]; simp only [List.size_toArray,hFs]; exact Nat.mul_le_mul_right 2 hnc)
    rw [hF] at this ⊢
    simpa [hFs] using this
theorem sortB (w:World) (base c n:Nat) (A:Option Addr) (l:List Blk) (own:Ow w base 133 2 A c (Cq l)) (hn:n = l.length) (hsz:l.length < 4611686018427387904) :
    Ret prog 204 [.slice A n c, .func (.func 205) #[] #[]] w fun v w' => ∃ l' : List Blk, v = .tuple #[] ∧ w.grownBy w' (Value.slice A n c).ownBlock ∧ l'.Perm l ∧ l'.Pairwise (fun x y => x.at_ ≤ y.at_) ∧ Ow w' base 133 2 A c (Cq l') := by
  subst hn
  rcases own.own.2 with ⟨h0,h1⟩ | ⟨g,cap,cur,hv,_⟩
  · rw [Am] at h1
    have hl:l = []:=List.eq_nil_of_length_eq_zero h1
    subst hl
    injection h0 with ha hb hc
    subst ha; subst hc
    have hcon:=AnyF.slices_SortFunc_none (P:=prog) { sortBlk with } none 0 (.func (.func 205) #[] #[]) w
    change Calls prog 204 _ _ _ at hcon
    refine Calls.mono hcon ?_
    rintro e w' ⟨rfl,rfl⟩
    exact ⟨_,rfl,[],rfl,Bs _ _,List.Perm.refl _,List.Pairwise.nil,own⟩
  · injection hv with h1 h2 h3
    subst h1; subst h3
    refine (sortBlocks w base g c l own hsz).mono ?_
    rintro v w' ⟨rfl,hg,l',hp,hs,ho⟩
    exact ⟨l',rfl,hg,hp,hs,ho⟩
end Go.Proofs.YtfokljnhllflbaaGreat
namespace Go.Proofs.YtfokljnhllflbaaGreat
open Go Go.Eng Go.RowKit Go.Proofs.Tryz
set_option maxHeartbeats 400000 in
set_option maxRecDepth 20000 in
theorem isNaN_ (w : World) (x : Int) : Ret prog 163 [(J x)] w (fun v w' => v = .bool false ∧ w = w') := by
  refine aP func163 Z Z Z ?_
  refine cT (za bF Z (cS (cT (zm (J x) Z (zm (J x) Z (zg Z (bQ (r:=false) Z Z (decide_eq_false (by simp))) (za bF Z (cS (aB (aO (v:=bF) (Ba Z Z) ?_))))))))))
  exact ⟨Z,rfl⟩
set_option maxHeartbeats 400000 in
set_option maxRecDepth 20000 in
theorem compare_ (w : World) (x y : Int) : Ret prog 102 [(J x), (J y)] w (fun v w' => v = .int .i64 (cmpI x y) ∧ w = w') := by
  refine aP func102 Z Z Z ?_
  refine cT (za (J 0) Z (cS (cT (zm (J x) Z (aU call163 (isNaN_ _ x) Z Z Z ?_)))))
  rintro _ _ ⟨rfl,rfl⟩
  refine za bF Z (cS (cT (zm (J y) Z (aU call163 (isNaN_ _ y) Z Z Z ?_))))
  rintro _ _ ⟨rfl,rfl⟩
  refine za bF Z (cS (aD (cT (zm bF Z (cS (aF Z (aA (aQ (aD (cT (zm bF Z (cS (aF Z (aA (aQ (aD (cT (zm (J x) Z (zm (J y) Z ?_)))))))))))))))))))
  refine zc ((x:Int) < (y:Int)) Z (fun r hr=>bL Z Z hr) (fun h1=>?_) (fun h1=>?_)
  ·refine cS (aE Z (cT (za (J (-1)) Z (cS (aB (aR (aO (v:=(J (-1))) (Ba Z Z) ?_)))))))
   exact ⟨by unfold cmpI; simp; try omega,rfl⟩
  ·refine cS (aF Z (aA (aQ (aD (cT (zm (J x) Z (zm (J y) Z ?_)))))))
   refine zc ((y:Int) < (x:Int)) Z (fun r hr=>bN Z Z hr) (fun h2=>?_) (fun h2=>?_)
   ·refine cS (aE Z (cT (za (J 1) Z (cS (aB (aR (aO (v:=(J 1)) (Ba Z Z) ?_)))))))
    exact ⟨by unfold cmpI; simp; try omega,rfl⟩
   ·refine cS (aF Z (aA (aQ (cT (za (J 0) Z (cS (aB (aO (v:=(J 0)) (Ba Z Z) ?_))))))))
    exact ⟨by unfold cmpI; simp; try omega,rfl⟩
set_option maxHeartbeats 400000 in
set_option maxRecDepth 20000 in
theorem find1_ (w:World) (o:RObj) (h:Int):Ret prog 280 [(.agg (o.cells).toArray),(J h)] w (fun v w'=>v = .int .i64 (cmpI o.handle h)∧w.grownBy w' none):=by
  refine aP func280 Z Z Z ?_
  refine cT (bH (cs:=o.cells) Z Z Z ?_)
  intro w1 b2 hb3 hz4 g5 o6
  refine za (J 0) Z (cS (cT (zg Z (fa136_0 (b:=⟨b2,0,none⟩) Z Z) (zl (J o.handle) Bw o6 Z (zm (J h) Z (aU call102 (compare_ _ o.handle h) Z Z Z ?_))))))
  rintro _ _ ⟨rfl,rfl⟩
  refine za (J (cmpI o.handle h)) Z (cS (aB (aO (v:=(J (cmpI o.handle h))) (Ba Z Z) ?_)))
  exact ⟨Z,(g5)⟩
set_option maxHeartbeats 400000 in
set_option maxRecDepth 20000 in
theorem bsf_ (w:World) (B n c:Nat) (A:Option Addr) (ros:List RObj) (hr:Rd w B 5 A (Cp ros)) (hn:n = ros.length) (hm:n ≤ 140737488351232) (t:Int):Ret prog 279 [(.slice A n c),(J t),(.func (.func 280) #[] #[])] w (fun v w'=>v = .tuple #[.int .i64 (bsI (hds ros) t:Int),.bool (foundB (hds ros) t)]∧w.grownBy w' none):=by
  refine aP func279 Z Z Z ?_
  refine cT (za (J 0) Z (za bF Z (cS (cT (zm (.slice A n c) Z (zg Z (bR underlying43 Z) (za (J (n:Nat)) Z (cS (cT (zm (J (n:Nat)) Z (za (J 0) Z (za (J (n:Nat)) Z ?_))))))))))))
  refine cS (aD (aG ?_))
  refine aK (fun t=>(Nat.ble 9 t && Nat.ble t 11) || (Nat.ble 15 t && Nat.ble t 34)) (fun n ρ wl => ∃ (i j:Nat),ρ 9 = (J (i:Int))∧ρ 10 = (J (j:Int))∧n = j - i∧World.grownBy w wl none∧i ≤ j∧j ≤ ros.length∧bsGo (hds ros) t i j = bsI (hds ros) t) (n) ?aa0 ?bb0
  case aa0=>exact ⟨0,n,rfl,rfl,by omega,Bs _ _,Nat.zero_le _,Nat.le_of_eq hn,by unfold bsI; rw [hds_length,hn]⟩
  case bb0 =>
   rintro n3 ρ0 w1 ho4 ⟨i,j,hs0_9,hs0_10,hn0,g2,hij,hjn,hbs⟩
   obtain ⟨j0,rfl⟩:=ho4.shape2 hs0_9 hs0_10
   clear ho4 hs0_9 hs0_10
   subst hn0
   have z5:=g2.size
   refine aD (cT (zm (J (i:Int)) Z (zm (J (j:Int)) Z ?_)))
   refine zc (((i:Int):Int) < ((j:Int):Int)) Z (fun r hr=>bL Z Z hr) (fun h6=>?_) (fun h6=>?_)
   ·refine cS (aE Z (aA (aQ (aG (cT (zm (J (i:Int)) Z (zm (J (j:Int)) Z (zg Z (bI (r:=(i:Int) + (j:Int)) Z Z (Dl (by omega) (by omega))) (zg Z (cD (r:=(i:Int) + (j:Int)) underlying3 underlying188 Z (IntWalk.u64_in _ (by omega))) ?_)))))))))
    obtain ⟨m,hm2⟩ : ∃ m,m = (i + j) / 2:=⟨_,rfl⟩
    refine zg Z (cE (r:=(m:Int)) Z Z (by decide) (shr1 hm2)) (zg Z (cD (r:=(m:Int)) underlying188 underlying3 Z (Dl (by omega) (by omega))) (za (J (m:Int)) Z (cS (cT (zm (.func (.func 280) #[] #[]) Z (zm (.slice A n c) Z (zm (J (m:Int)) Z ?_)))))))
    have r7:=(hr.st0 g2)
    obtain ⟨e8,he9⟩ : ∃ e,(ros)[m]? = some e:=⟨_,List.getElem?_eq_getElem (by omega)⟩
    obtain ⟨ad10,hA11,hB12,c13⟩:=r7.at_ (Cj he9)
    have hl14:=Eng.lt_len (Cj he9)
    refine zg Z (bS (b:=ad10.add (m * 5)) (i:=m) underlying43 sizeOf136 (by rw [← hA11]; rfl) Z (by omega) (by omega) Z) (zg Z (bW Z (Aj (cs:=e8.cells) wh136 c13)) (zm (J t) Z (aV call280 Z (find1_ _ e8 t) Z Z Z ?_)))
    rintro _ w15 ⟨rfl,g16⟩
    have z17:=g16.size
    refine zc ((cmpI e8.handle t:Int) < (0:Int)) Z (fun r hr=>bL Z Z hr) (fun h18=>?_) (fun h18=>?_)
    ·refine cS (aE Z (aL (zm (J (m:Int)) Z (zg Z (bI (r:=(m:Int) + 1) Z Z (Dl (by omega) (by omega))) (za (J ((m:Int) + 1)) Z (aM (inB.n (aQ ?_))))))))
     refine ⟨(by repeat (first | exact aJ _ _ | exact aH _ _ | refine aI ?_ Z _)),_,?_,⟨m + 1,j,rfl,rfl,rfl,(Ac (g2) g16),by omega,by omega,by rw [bsGo_lo (by omega) hm2 (by rw [hds_get he9]; exact cmpI_lt.1 h18)]; exact hbs⟩⟩
     omega
    ·refine cS (aF Z (aL (zm (J (m:Int)) Z (za (J (m:Int)) Z (aM (inB.n (aQ ?_)))))))
     refine ⟨(by repeat (first | exact aJ _ _ | exact aH _ _ | refine aI ?_ Z _)),_,?_,⟨i,m,rfl,rfl,rfl,(Ac (g2) g16),by omega,by omega,by rw [bsGo_hi (by omega) hm2 (by rw [hds_get he9]; exact fun hh=>h18 (cmpI_lt.2 hh))]; exact hbs⟩⟩
     omega
   ·refine cS (aF Z (aC (aS (aS (Bo (aQ (cT (zm (J (i:Int)) Z (zm (J (i:Int)) Z (zm (J (n:Nat)) Z ?_))))))))))
    refine zc (((i:Int):Int) < ((n:Nat):Int)) Z (fun r hr=>bL Z Z hr) (fun h19=>?_) (fun h19=>?_)
    ·refine zm bT Z (zm (.func (.func 280) #[] #[]) Z (zm (.slice A n c) Z (zm (J (i:Int)) Z ?_)))
     have r20:=(hr.st0 g2)
     obtain ⟨e21,he22⟩ : ∃ e,(ros)[i]? = some e:=⟨_,List.getElem?_eq_getElem (by omega)⟩
     obtain ⟨ad23,hA24,hB25,c26⟩:=r20.at_ (Cj he22)
     have hl27:=Eng.lt_len (Cj he22)
     refine zg Z (bS (b:=ad23.add (i * 5)) (i:=i) underlying43 sizeOf136 (by rw [← hA24]; rfl) Z (by omega) (by omega) Z) (zg Z (bW Z (Aj (cs:=e21.cells) wh136 c26)) (zm (J t) Z (aV call280 Z (find1_ _ e21 t) Z Z Z ?_)))
     rintro _ w28 ⟨rfl,g29⟩
     have z30:=g29.size
     refine zc ((cmpI e21.handle t:Int) = (0:Int)) Z (fun r hr=>bP Z Z hr) (fun h31=>?_) (fun h31=>?_)
     ·refine zT bT Z (za (J (i:Int)) Z (za bT Z (cS (aB (aO (v:=(.tuple #[(J (i:Int)),bT])) (res2 Z Z Z) ?_)))))
      have e1:bsI (hds ros) t = i:=by rw [← hbs]; exact bsGo_end (by omega)
      exact ⟨by rw [e1,show foundB (hds ros) t = true from by unfold foundB; rw [e1,hds_length,hds_get he22,cmpI_eq.1 h31]; simp; omega],(Ac (g2) g29)⟩
     ·refine zT bF Z (za (J (i:Int)) Z (za bF Z (cS (aB (aO (v:=(.tuple #[(J (i:Int)),bF])) (res2 Z Z Z) ?_)))))
      have e1:bsI (hds ros) t = i:=by rw [← hbs]; exact bsGo_end (by omega)
      exact ⟨by rw [e1,show foundB (hds ros) t = false from by unfold foundB; rw [e1,hds_length,hds_get he22]; simp; exact fun _ hh=>h31 (cmpI_eq.2 hh)],(Ac (g2) g29)⟩
    ·refine zm bF Z (zo Z (zo Z (zo Z (zo Z (zo Z (zo Z (zo Z (zo Z (zF bF Z (za (J (i:Int)) Z ?_))))))))))
     refine za bF Z (cS (aB (aO (v:=(.tuple #[(J (i:Int)),bF])) (res2 Z Z Z) ?_)))
     have e1:bsI (hds ros) t = i:=by rw [← hbs]; exact bsGo_end (by omega)
     exact ⟨by rw [e1,show foundB (hds ros) t = false from by unfold foundB; rw [e1,hds_length]; simp; omega],(g2)⟩
set_option maxHeartbeats 400000 in
set_option maxRecDepth 20000 in
theorem find_ (w:World) (B n c:Nat) (A:Option Addr) (ros:List RObj) (hr:Rd w B 5 A (Cp ros)) (hn:n = ros.length) (hm:n ≤ 140737488351232) (t:Int):Ret prog 253 [(.slice A n c),(J t)] w (fun v w'=>v = .tuple #[.int .i64 (bsI (hds ros) t:Int),.bool (foundB (hds ros) t)]∧w.grownBy w' none):=by
  refine aP func253 Z Z Z ?_
  refine cT (za (J 0) Z (za bF Z (cS (cT (zm (.slice A n c) Z (zm (J t) Z (aU call279 (bsf_ _ _ _ _ _ _ hr (by omega) (by omega) t) Z Z Z ?_)))))))
  rintro _ w1 ⟨rfl,g2⟩
  have z3:=g2.size
  refine zx (J (bsI (hds ros) t:Int)) Z (zx (.bool (foundB (hds ros) t)) Z (za (J (bsI (hds ros) t:Int)) Z (za (.bool (foundB (hds ros) t)) Z (cS (aB (aO (v:=(.tuple #[(J (bsI (hds ros) t:Int)),(.bool (foundB (hds ros) t))])) (res2 Z Z Z) ?_))))))
  exact ⟨Z,(g2)⟩
set_option maxHeartbeats 400000 in
set_option maxRecDepth 20000 in
theorem leads_ (w:World) (B n c:Nat) (A:Option Addr) (ros:List RObj) (hr:Rd w B 5 A (Cp ros)) (hn:n = ros.length) (hm:n ≤ 140737488351232) (t:Int):Ret prog 207 [(.slice A n c),(J t)] w (fun v w'=>v = .bool (leadB (hds ros) t)∧w.grownBy w' none):=by
  refine aP func207 Z Z Z ?_
  refine cT (za bF Z (cS (cT (zm (.slice A n c) Z (zm (J t) Z (aU call253 (find_ _ _ _ _ _ _ hr (by omega) (by omega) t) Z Z Z ?_))))))
  rintro _ w1 ⟨rfl,g2⟩
  have z3:=g2.size
  refine zm (.tuple #[(J (bsI (hds ros) t:Int)),(.bool (foundB (hds ros) t))]) Z (zx (J (bsI (hds ros) t:Int)) Z (zx (.bool (foundB (hds ros) t)) Z (za (J (bsI (hds ros) t:Int)) Z (za (.bool (foundB (hds ros) t)) Z (cS (cT (zm (J t) Z ?_)))))))
  refine zc ((t:Int) = (0:Int)) Z (fun r hr=>bP Z Z hr) (fun h4=>?_) (fun h4=>?_)
  ·refine zm bT Z (zo Z (zT bT Z (za bT Z (cS (aB (aO (v:=bT) (Ba Z Z) ?_))))))
   exact ⟨by unfold leadB; simp [h4],(g2)⟩
  ·refine zm bF Z (zm (.bool (foundB (hds ros) t)) Z (zF (.bool (foundB (hds ros) t)) Z (za (.bool (foundB (hds ros) t)) Z (cS (aB (aO (v:=(.bool (foundB (hds ros) t))) (Ba Z Z) ?_))))))
   exact ⟨by unfold leadB; simp [h4],(g2)⟩
set_option maxHeartbeats 400000 in
set_option maxRecDepth 20000 in
theorem lost_ (w:World) (B b:Nat) (rh:RHeap) (ros:List RObj) (hb:Ob w b 47 rh.cells) (hr:Rd w B 5 rh.objs.a (Cp ros)) (hn:rh.objs.n = ros.length) (hm:rh.objs.n ≤ 140737488351232) (t:Int):Ret prog 206 [(J t),(.pointer (some ⟨b,0,none⟩))] w (fun v w'=>v = .bool (!(leadB (hds ros) t))∧w.grownBy w' none):=by
  refine aP func206 Z Z Z ?_
  refine cT (za bF Z (cS (cT (zg Z (fa47_1 (b:=⟨b,1,none⟩) Z Z) (zl (.slice rh.objs.a rh.objs.n rh.objs.c) lo43 hb Z (zm (J t) Z (aU call207 (leads_ _ _ _ _ _ _ hr (by omega) (by omega) t) Z Z Z ?_)))))))
  rintro _ w1 ⟨rfl,g2⟩
  have z3:=g2.size
  refine zg Z (bC (b:=leadB (hds ros) t) Z) (za (.bool (!(leadB (hds ros) t))) Z (cS (aB (aO (v:=(.bool (!(leadB (hds ros) t)))) (Ba Z Z) ?_))))
  exact ⟨Z,(g2)⟩
set_option maxHeartbeats 400000 in
set_option maxRecDepth 20000 in
theorem ixLost (w:World) (B b:Nat) (rh:RHeap) (ros:List RObj) (hb:Ob w b 47 rh.cells) (hr:Rd w B 5 rh.objs.a (Cp ros)) (hn:rh.objs.n = ros.length) (hm:rh.objs.n ≤ 140737488351232) (l:List Int) (A:Option Addr) (n c B2:Nat) (hl:Rd w B2 1 A (ics l)) (hln:n = l.length) (hlm:l.length ≤ 140737488351232):Ret prog 254 [(.slice A n c),(.func (.func 206) #[] #[(.pointer (some ⟨b,0,none⟩))])] w (fun v w'=>v = .int .i64 (idxF (fun x => !(leadB (hds ros) x)) l)∧w.grownBy w' none):=by
  refine aP func254 Z Z Z ?_
  refine cT (za (J 0) Z (cS (aD (cT (zm (.slice A n c) Z (zg Z (bR underlying134 Z) (zm (J 0) Z (cS (aG ?_)))))))))
  refine aK (fun t=>(Nat.ble 4 t && Nat.ble t 5) || (Nat.ble 8 t && Nat.ble t 18)) (fun n ρ wl => ∃ (k:Nat),ρ 8 = (J (k:Int))∧n = l.length - k∧World.grownBy w wl none∧k ≤ l.length∧idxFrom (fun x => !(leadB (hds ros) x)) k (l.drop k) = idxF (fun x => !(leadB (hds ros) x)) l) (l.length) ?aa0 ?bb0
  case aa0=>exact ⟨0,rfl,rfl,Bs _ _,Nat.zero_le _,rfl⟩
  case bb0 =>
   rintro n3 ρ0 w1 ho4 ⟨k,hs0_8,hn0,g2,hk,hix⟩
   obtain ⟨j0,rfl⟩:=ho4.shape1 hs0_8
   clear ho4 hs0_8
   subst hn0
   have z5:=g2.size
   refine cT ?_
   refine zc (((k:Int):Int) < ((n:Nat):Int)) Z (fun r hr=>bL Z Z hr) (fun h6=>?_) (fun h6=>?_)
   ·refine cS (aD (aE Z (aA (aQ (aD (aG (cT (zm (J (k:Int)) Z (za (J (k:Int)) Z (cS (cT (zm (.func (.func 206) #[] #[(.pointer (some ⟨b,0,none⟩))]) Z (zm (.slice A n c) Z (zm (J (k:Int)) Z ?_))))))))))))))
    have r7:=(hl.st0 g2)
    obtain ⟨e8,he9⟩ : ∃ e,(l)[k]? = some e:=⟨_,List.getElem?_eq_getElem (by omega)⟩
    obtain ⟨ad10,hA11,hB12,c13⟩:=r7.at_ (ics_get he9)
    have hl14:=Eng.lt_len (ics_get he9)
    refine zg Z (bS (b:=ad10.add (k * 1)) (i:=k) underlying134 sizeOf3 (by rw [← hA11]; rfl) Z (by omega) (by omega) Z) (zg Z (bW Z (Ax Bw (Cl.at_ (v:=(J e8)) c13 (i:=0) Z))) ?_)
    have o15:=(hb.st0 g2)
    have r16:=(hr.st0 g2)
    refine aV call206 Z (lost_ _ _ _ _ _ o15 r16 hn hm e8) Z Z Z ?_
    rintro _ w17 ⟨rfl,g18⟩
    have z19:=g18.size
    rcases hb20:(!(leadB (hds ros) e8)) with _ | _
    ·refine cS (aF Z (aA (inB.n (aQ (aL (zg Z (bI (r:=(k:Int) + 1) Z Z (Dl (by omega) (by omega))) (zm (J ((k:Int) + 1)) Z (cS ?_))))))))
     refine ⟨(by repeat (first | exact aJ _ _ | exact aH _ _ | refine aI ?_ Z _)),_,?_,⟨k + 1,rfl,rfl,(Ac (g2) g18),by omega,idxF_go hix he9 hb20⟩⟩
     omega
    ·refine cS (aE Z (cT (zm (J (k:Int)) Z (za (J (k:Int)) Z (cS (aB (inB.r (aR (aR (inB.r (aR (aO (v:=(J (k:Int))) (Ba Z Z) ?_))))))))))))
     exact ⟨Bi (idxF_yes hix he9 hb20),(Ac (g2) g18)⟩
   ·refine cS (aD (aF Z (aC (aS (aS (Bo (aQ (cT (za (J (-1)) Z (cS (aB (aO (v:=(J (-1))) (Ba Z Z) ?_))))))))))))
    exact ⟨Bi (idxF_end hix (by omega)),(g2)⟩
set_option maxHeartbeats 400000 in
set_option maxRecDepth 20000 in
theorem ctLost (w:World) (B b:Nat) (rh:RHeap) (ros:List RObj) (hb:Ob w b 47 rh.cells) (hr:Rd w B 5 rh.objs.a (Cp ros)) (hn:rh.objs.n = ros.length) (hm:rh.objs.n ≤ 140737488351232) (l:List Int) (A:Option Addr) (n c B2:Nat) (hl:Rd w B2 1 A (ics l)) (hln:n = l.length) (hlm:l.length ≤ 140737488351232):Ret prog 208 [(.slice A n c),(.func (.func 206) #[] #[(.pointer (some ⟨b,0,none⟩))])] w (fun v w'=>v = .bool (l.any (fun x => !(leadB (hds ros) x)))∧w.grownBy w' none):=by
  refine aP func208 Z Z Z ?_
  refine cT (za bF Z (cS (cT (zm (.slice A n c) Z (zm (.func (.func 206) #[] #[(.pointer (some ⟨b,0,none⟩))]) Z (aU call254 (ixLost _ _ _ _ _ hb hr hn hm l _ _ _ _ hl hln hlm) Z Z Z ?_))))))
  rintro _ w1 ⟨rfl,g2⟩
  have z3:=g2.size
  refine zg Z (bO (r:=(l).any (fun x => !(leadB (hds ros) x))) Z Z (idxF_any _ _)) (za (.bool ((l).any (fun x => !(leadB (hds ros) x)))) Z (cS (aB (aO (v:=(.bool ((l).any (fun x => !(leadB (hds ros) x))))) (Ba Z Z) ?_))))
  exact ⟨Z,(g2)⟩
set_option maxHeartbeats 400000 in
set_option maxRecDepth 20000 in
theorem cloneBlkN (w:World) (c:Nat):Ret prog 202 [(.slice none 0 c)] w (fun v w' => ∃ (A':Option Addr) (c':Nat),v = .slice A' 0 c'∧w.grownBy w' none∧Ow w' w.heap.size 133 2 A' c' []):=by
  refine aP func202 Z Z Z ?_
  refine cT (za (.slice none 0 0) Z (cS (aD (cT (zm (.slice none 0 c) Z (zg Z (Ex.eqSl0 (r:=true) underlying45 Z Z Z) (cS (aE Z (cT (za (.slice none 0 0) Z (cS (aB (aR (aO (v:=(.slice none 0 0)) (Ba Z Z) ?_))))))))))))))
  exact ⟨none,0,rfl,(Bs _ _),Ow.nil_ _ _ _ _⟩
set_option maxHeartbeats 400000 in
set_option maxRecDepth 20000 in
theorem cloneBlkS (w:World) (l:List Blk) (ad:Addr) (n c B:Nat) (hr:Rd w B 2 (some ad) (Cq l)) (hn:n = l.length) (hby:n * 16 ≤ 140737488355328):Ret prog 202 [(.slice (some ad) n c)] w (fun v w' => ∃ (A':Option Addr) (c':Nat),v = .slice A' n c'∧w.grownBy w' none∧Ow w' w.heap.size 133 2 A' c' (Cq l)):=by
  refine aP func202 Z Z Z ?_
  refine cT (za (.slice none 0 0) Z (cS (aD (cT (zm (.slice (some ad) n c) Z (zg Z (Ex.eqSl0 (r:=false) underlying45 Z Z Z) (cS (aF Z (aA (aQ (cT (RL.bs0 underlying45 sizeOf133 Z Z ?_))))))))))))
  intro w1 b2 hb3 hz4 g5 ow6
  refine zm (.slice (some ad) n c) Z ?_
  have r7:=(hr.st0 g5)
  refine cG (base:=w.heap.size) (xss:=[]) (yss:=Cq (l)) el45 Z ow6 Z (by simp [Aq,Au,Ar,Am,Ak]; try omega) r7 Z (by simp [Aq,Au,Ar,Am,Ak]; try omega) (blks_one _) (by omega) (by omega) (by omega) Z Z ?_
  intro w8 A9 c10 g11 ow12
  have z13:=g11.size
  refine za (.slice A9 (0 + n) c10) Z (cS (aB (aO (v:=(.slice A9 (0 + n) c10)) (Ba Z Z) ?_)))
  exact ⟨_,_,by rw [Nat.zero_add],(Cu (g5) g11 ow6 (by omega)),ow12.weak (by omega)⟩
theorem cloneBlk (w:World) (l:List Blk) (A:Option Addr) (n c B:Nat) (hr:Rd w B 2 A (Cq l)) (hn:n = l.length) (hby:n * 16 ≤ 140737488355328):Ret prog 202 [.slice A n c] w (fun v w' => ∃ (A':Option Addr) (c':Nat),v = .slice A' n c'∧w.grownBy w' none∧Ow w' w.heap.size 133 2 A' c' (Cq l)):=by
  cases A with
  | some ad=>exact cloneBlkS w l ad n c B hr hn hby
  | none =>
    have hl:l = []:=by
      rcases l with _ | ⟨x,l⟩
      · rfl
      · obtain ⟨ad,h,_⟩:=hr.2 (by simp [Df,ics,rows,Cp,Cq]); cases h
    subst hl; subst hn
    exact cloneBlkN w c
end Go.Proofs.YtfokljnhllflbaaGreat
