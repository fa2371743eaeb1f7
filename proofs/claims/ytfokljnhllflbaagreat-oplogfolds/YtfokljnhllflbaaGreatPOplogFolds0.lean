/- Part 1 of the proof of OplogFolds: Eng, EngOps, EngTail, EngZip, Data, Types, Spec, Spec2, Spec3, Spec4, EngMore, EngRow, EngRow2, EngFloat, Spec5, Spec6, Spec7, EngScope, Spec8. -/
import Derived.Deep.Quiet
import Derived.Ground.NamesProg
import Derived.Ground.SlgcProg
import Derived.Ground.SlsfProg
import Derived.JoinedOf
import Derived.Laws.BytesString
import Derived.Laws.MakeOwn
import Derived.Laws.Strings
import Derived.Lib.AppendZeros
import Derived.Lib.ConvBytes
import Derived.Lib.Overlaps
import Derived.Maps.AppendAt
import Derived.OrdersHeld
import Derived.ProofKit
import Derived.Recover
import Derived.ScopeJumps
import Derived.Shelf.SlSortCmp.NoneTotal
import Derived.Shelf.SlSortCmp.WholeK
import Derived.Shelf.SlicesG.Cmp
import Derived.Shelf.Small.Bits
import Derived.Sort.OwnSortedInts
import Derived.StillTail
import Derived.Test.YtfokljnhllflbaaGreatProg
import Derived.WalkKit
import Derived.WalkLawsBesides
import Derived.WalkSpells
theorem _root_.Go.Eng.Z {α : Sort _} {a : α} : a = a := rfl
set_option linter.unusedSimpArgs false
set_option linter.unusedVariables false
namespace Go.Eng
open Go Go.RowKit
abbrev Da:=Nat → Value
def upd (ρ:Da) (d:Nat) (v:Value):Da:=fun t=>bif Nat.beq t d then v else ρ t
def DS:Nat:=1000000000
def dfr:Value → List Deferred
  | .func fn fs cap=>[{ target:=.fn fn cap,args:=fs }]
  | _=>[]
def gt (ρ:Da) (t:Nat):Value:=bif Nat.beq t DS then undef else ρ t
def ev (ρ:Da):Operand → Value
  | .tmp t=>gt ρ t
  | .const v=>v
  | .global g=>.pointer (some ⟨g,0,none⟩)
  | .func f=>.func (.func f) #[] #[]
def ini (l:List Value):Da:=fun t=>l.getD t undef
structure EQ (N:Nat) (a:Act) (ρ:Da):Prop where
  nd:a.defers = dfr (ρ DS)
  size:a.tmps.size = N
  at_ : ∀ t,a.tmps.getD t undef = gt ρ t
  sm:N ≤ DS
theorem EQ.eval {N:Nat} {a:Act} {ρ:Da} (h:EQ N a ρ):a.eval = ev ρ:=by
  funext x
  cases x with
  | tmp t=>exact h.at_ t
  | _=>rfl
theorem EQ.put {N:Nat} {a:Act} {ρ:Da} (h:EQ N a ρ) {d:Nat} (hd:Nat.blt d N = true) (v:Value):EQ N (a.put (some d) v) (upd ρ d v):=by
  have hd':d < a.tmps.size:=by rw [h.size]; simpa using hd
  have hDS:Nat.beq DS d = false:=by
    cases hx:Nat.beq DS d with
    | false=>rfl
    | true=>have:=Nat.eq_of_beq_eq_true hx; have h2:=h.sm; have h3:=h.size; omega
  have hDS':Nat.beq d DS = false:=by
    cases hx:Nat.beq d DS with
    | false=>rfl
    | true=>have:=Nat.eq_of_beq_eq_true hx; have h2:=h.sm; have h3:=h.size; omega
  refine ⟨by simp only [Act.put,upd,hDS,cond_false]; exact h.nd,by simp [Act.put,h.size],fun t=>?_,h.sm⟩
  simp only [Act.put,upd,gt]
  by_cases e:t = d
  · subst e
    rw [hDS']
    simp [hd']
  · have hb:Nat.beq t d = false:=by
      cases hx:Nat.beq t d with
      | false=>rfl
      | true=>exact absurd (Nat.eq_of_beq_eq_true hx) e
    rw [hb,cond_false]; have h0:=h.at_ t; unfold gt at h0; rw [← h0]
    simp [Array.getElem?_setIfInBounds_ne (Ne.symm e)]
theorem EQ.put_none {N:Nat} {a:Act} {ρ:Da} (h:EQ N a ρ) (v:Value):EQ N (a.put none v) ρ:=h
def lft (N:Nat) (Q:Exit → Da → World → Prop):Exit → Act → World → Prop:=fun e a w => ∃ ρ,EQ N a ρ∧Q e ρ w
def yl (ops:List Oper) (ρ:Da) (j:Nat):Option Bool :=
  match (ops[j]?).bind (·.dst) with
  | some t=>(match gt ρ t with | .bool b=>some b | _=>none)
  | none=>none
def gd (ops:List Oper) (ρ:Da) (o:Oper):Bool :=
  match o.guard with
  | none=>true
  | some (j,want)=>yl ops ρ j == some want
theorem EQ.yielded {N:Nat} {a:Act} {ρ:Da} (h:EQ N a ρ) (ops:List Oper) (j:Nat):yielded ops.toArray a.tmps j = yl ops ρ j:=by
  unfold Go.yielded yl
  simp only [List.getElem?_toArray]
  cases (ops[j]?).bind (·.dst) with
  | none=>rfl
  | some t =>
    simp only [Option.bind_some]
    have ht:=h.at_ t
    simp only [Array.getD_eq_getD_getElem?] at ht
    cases hx:a.tmps[t]? with
    | none=>rw [hx] at ht; rw [← ht]; rfl
    | some v=>rw [hx] at ht; rw [← ht]; cases v <;> rfl
theorem EQ.wanted {N:Nat} {a:Act} {ρ:Da} (h:EQ N a ρ) (ops:List Oper) (o:Oper):Region.wanted o (Go.yielded ops.toArray a.tmps) = gd ops ρ o:=by
  unfold Region.wanted gd
  cases o.guard with
  | none=>rfl
  | some g=>obtain ⟨j,b⟩:=g; simp only [h.yielded]
def CW (P:Program) (N:Nat) (c:Code) (Q:Exit → Da → World → Prop) (ρ:Da) (w:World):Prop :=
  ∀ a,EQ N a ρ → c.wp P (lft N Q) a w
def thn (next:Da → World → Prop) (Q:Exit → Da → World → Prop):Exit → Da → World → Prop
  | .normal,ρ,w=>next ρ w
  | e,ρ,w=>Q e ρ w
def inB (id:Nat) (Q:Exit → Da → World → Prop):Exit → Da → World → Prop
  | .exit id', ρ, w => bif Nat.beq id' id then Q .normal ρ w else Q (.exit id') ρ w
  | e,ρ,w=>Q e ρ w
section
variable {P:Program} {N:Nat} {Q Q':Exit → Da → World → Prop} {ρ:Da} {w:World}
theorem CW.mono {c:Code} (h:CW P N c Q ρ w) (hq : ∀ e ρ w,Q e ρ w → Q' e ρ w):CW P N c Q' ρ w :=
  fun a ha=>wp_mono (h a ha) fun _ _ _ ⟨ρ,h1,h2⟩=>⟨ρ,h1,hq _ _ _ h2⟩
theorem aA (h:Q .normal ρ w):CW P N .skip Q ρ w:=fun _ ha=>wp_skip ⟨ρ,ha,h⟩
theorem CW.label {l:Nat} (h:Q .normal ρ w):CW P N (.label l) Q ρ w:=fun _ ha=>wp_label ⟨ρ,ha,h⟩
theorem aB (h:Q .ret ρ w):CW P N .ret Q ρ w:=fun _ ha=>wp_ret ⟨ρ,ha,h⟩
theorem aC {id:Nat} (h:Q (.exit id) ρ w):CW P N (.exit id) Q ρ w:=fun _ ha=>wp_exit ⟨ρ,ha,h⟩
theorem aD {x y:Code} (h:CW P N x (thn (CW P N y Q) Q) ρ w):CW P N (.seq x y) Q ρ w:=fun a ha =>
  wp_seq (wp_mono (h a ha) fun e a' w' ⟨ρ',h1,h2⟩=>by
    cases e with
    | normal=>exact h2 a' h1
    | _=>exact ⟨ρ',h1,h2⟩)
theorem aE {c:Operand} {x y:Code} (hc:ev ρ c = .bool true) (h:CW P N x Q ρ w):CW P N (.cond c x y) Q ρ w :=
  fun a ha=>wp_cond_true (by rw [ha.eval]; exact hc) (h a ha)
theorem aF {c:Operand} {x y:Code} (hc:ev ρ c = .bool false) (h:CW P N y Q ρ w):CW P N (.cond c x y) Q ρ w :=
  fun a ha=>wp_cond_false (by rw [ha.eval]; exact hc) (h a ha)
theorem CW.cond {c:Operand} {x y:Code} {b:Bool} (hc:ev ρ c = .bool b) (ht:b = true → CW P N x Q ρ w) (hf:b = false → CW P N y Q ρ w):CW P N (.cond c x y) Q ρ w:=by
  cases b
  · exact aF hc (hf Z)
  · exact aE hc (ht Z)
theorem aG {id:Nat} {c:Code} (h:CW P N c (inB id Q) ρ w):CW P N (.block id c) Q ρ w:=fun a ha =>
  wp_block (wp_mono (h a ha) fun e a' w' ⟨ρ',h1,h2⟩=>by
    cases e with
    | exit id' =>
      show (if id' = id then _ else _)
      unfold inB at h2
      by_cases e:id' = id
      · rw [if_pos e]
        subst e
        simp only [Nat.beq_refl,cond_true] at h2
        exact ⟨ρ',h1,h2⟩
      · rw [if_neg e]
        have hb:Nat.beq id' id = false:=by
          cases hx:Nat.beq id' id with
          | false=>rfl
          | true=>exact absurd (Nat.eq_of_beq_eq_true hx) e
        simp only [hb,cond_false] at h2
        exact ⟨ρ',h1,h2⟩
    | _=>exact ⟨ρ',h1,h2⟩)
def Out (m:Nat → Bool) (ρ ρ0:Da):Prop := ∀ t,m t = false → ρ t = ρ0 t
theorem aH (m:Nat → Bool) (ρ:Da):Out m ρ ρ:=fun _ _=>rfl
theorem aI {m:Nat → Bool} {ρ ρ0:Da} (h:Out m ρ ρ0) {d:Nat} (hd:m d = true) (v:Value):Out m (upd ρ d v) ρ0:=fun t ht=>by
  unfold upd
  cases hx:Nat.beq t d with
  | false=>exact h t ht
  | true=>have:=Nat.eq_of_beq_eq_true hx; subst this; rw [ht] at hd; cases hd
def mix (m:Nat → Bool) (j ρ0:Da):Da:=fun t=>bif m t then j t else ρ0 t
theorem aJ {m:Nat → Bool} (j:Da) (ρ0:Da):Out m (mix m j ρ0) ρ0:=fun t ht=>by unfold Eng.mix; rw [ht]; rfl
theorem Out.shape0 {m:Nat → Bool} {ρ ρ0:Da} (h:Out m ρ ρ0) : ∃ j,ρ = Eng.mix m j ρ0:=⟨ρ,by
  funext t; unfold Eng.mix
  cases hm:m t with
  | true=>rfl
  | false=>exact h t hm⟩
theorem upd_self {ρ:Da} {d:Nat} {v:Value} (h:ρ d = v):ρ = upd ρ d v:=by
  funext t; unfold upd
  cases hx:Nat.beq t d with
  | false=>rfl
  | true=>have:=Nat.eq_of_beq_eq_true hx; subst this; exact h
theorem Out.shape1 {m:Nat → Bool} {ρ ρ0:Da} (h:Out m ρ ρ0) {d:Nat} {v:Value} (h1:ρ d = v) : ∃ j,ρ = upd (Eng.mix m j ρ0) d v:=by
  obtain ⟨j,hj⟩:=h.shape0
  exact ⟨j,by rw [← hj]; exact upd_self h1⟩
theorem Out.shape2 {m:Nat → Bool} {ρ ρ0:Da} (h:Out m ρ ρ0) {d e:Nat} {v u:Value} (h1:ρ d = v) (h2:ρ e = u) : ∃ j,ρ = upd (upd (Eng.mix m j ρ0) d v) e u:=by
  obtain ⟨j,hj⟩:=h.shape1 h1
  exact ⟨j,by rw [← hj]; exact upd_self h2⟩
theorem Out.shape3 {m:Nat → Bool} {ρ ρ0:Da} (h:Out m ρ ρ0) {d e f:Nat} {v u x:Value} (h1:ρ d = v) (h2:ρ e = u) (h3:ρ f = x) : ∃ j,ρ = upd (upd (upd (Eng.mix m j ρ0) d v) e u) f x:=by
  obtain ⟨j,hj⟩:=h.shape2 h1 h2
  exact ⟨j,by rw [← hj]; exact upd_self h3⟩
theorem aK {c:Code} (m:Nat → Bool) (I:Nat → Da → World → Prop) (n0:Nat) (h0:I n0 ρ w)
    (round : ∀ n ρ' w', Out m ρ' ρ → I n ρ' w' → CW P N c (thn (fun ρ'' w'' => Out m ρ'' ρ ∧ ∃ n', n' < n ∧ I n' ρ'' w'') Q) ρ' w') : CW P N (.loop c) Q ρ w := by
  intro a ha b k cs
  have key : ∀ n ρ' w',Out m ρ' ρ → I n ρ' w' → ∀ a,EQ N a ρ' →
      ∃ e a' w'', lft N Q e a' w'' ∧ Arrives P (lone (b.at a (.code c :: .inLoop c :: k)) cs w') b k cs e a' w'' := by
    intro n
    induction n using Nat.strongRecOn with
    | _ n ih =>
      intro ρ' w' ho hI a ha
      obtain ⟨e,a₁,w₁,⟨ρ₁,h1,h2⟩,harr⟩:=round n ρ' w' ho hI a ha b (.inLoop c :: k) cs
      cases e with
      | normal =>
        obtain ⟨ho₁,n',hlt,hI₁⟩:=h2
        obtain ⟨e₂,a₂,w₂,hq₂,harr₂⟩:=ih n' hlt ρ₁ w₁ ho₁ hI₁ a₁ h1
        exact ⟨e₂,a₂,w₂,hq₂,.of_steps (Steps.trans harr (.one step_inLoop)) harr₂⟩
      | exit id=>exact ⟨_,a₁,w₁,⟨ρ₁,h1,h2⟩,.pass (x:=.inLoop c) rfl (fun _ _=>.inl (by simp)) harr⟩
      | goto l=>exact ⟨_,a₁,w₁,⟨ρ₁,h1,h2⟩,.pass (x:=.inLoop c) rfl (fun _ _=>.inl (by simp)) harr⟩
      | ret=>exact ⟨_,a₁,w₁,⟨ρ₁,h1,h2⟩,.pass (x:=.inLoop c) rfl (fun _ _=>.inl (by simp)) harr⟩
      | panic ch=>exact ⟨_,a₁,w₁,⟨ρ₁,h1,h2⟩,.pass (x:=.inLoop c) rfl (fun _ _=>.inl (by simp)) harr⟩
      | outgrown=>exact ⟨_,a₁,w₁,⟨ρ₁,h1,h2⟩,.pass (x:=.inLoop c) rfl (fun _ _=>.inl (by simp)) harr⟩
  obtain ⟨e,a',w',hq,harr⟩:=key n0 ρ w (aH _ _) h0 a ha
  exact ⟨e,a',w',hq,.of_steps (.one step_loop) harr⟩
def RL (P:Program) (N:Nat) (ops:List Oper) (Q:Exit → Da → World → Prop) (l:List Oper) (ρ:Da) (w:World):Prop :=
  ∀ a,EQ N a ρ → wpList P ops.toArray (lft N Q) l a w
theorem aL {id:Nat} {ops:List Oper} (h:RL P N ops Q ops ρ w):CW P N (.region id ops.toArray false) Q ρ w :=
  fun a ha=>wp_region_lit (h a ha)
def Ex (P:Program) (ρ:Da) (o:Oper) (w:World) (v:Value) (w':World):Prop:=(execOp (ev ρ) o).run P w = .ok (.value v) w'
variable {ops rest:List Oper} {o:Oper}
theorem aM (h:Q .normal ρ w):RL P N ops Q [] ρ w:=fun _ ha=>⟨ρ,ha,h⟩
theorem aN {d : Nat} {v : Value} {w' : World} (hd : o.dst = some d) (hg : gd ops ρ o = true) (hN : Nat.blt d N = true) (he : Ex P ρ o w v w') (h : RL P N ops Q rest (upd ρ d v) w') :
    RL P N ops Q (o :: rest) ρ w:=fun a ha=>by
  unfold wpList
  rw [ha.wanted,hg,if_pos rfl]
  refine .inl ?_
  unfold Oper.wp
  rw [ha.eval,he,Oper.upon_value,hd]
  exact h _ (ha.put hN v)
theorem RL.out {d:Nat} (hd:o.dst = some d) (hg:gd ops ρ o = false) (hN:Nat.blt d N = true) (h:RL P N ops Q rest (upd ρ d undef) w) :
    RL P N ops Q (o :: rest) ρ w:=fun a ha=>by
  unfold wpList
  rw [ha.wanted,hg,if_neg (by simp),hd]
  exact h _ (ha.put hN undef)
theorem RL.unit {w' : World} (hd : o.dst = none) (hg : gd ops ρ o = true) (he : (execOp (ev ρ) o).run P w = .ok .skip w') (h : RL P N ops Q rest ρ w') :
    RL P N ops Q (o :: rest) ρ w:=fun a ha=>by
  unfold wpList
  rw [ha.wanted,hg,if_pos rfl]
  refine .inl ?_
  unfold Oper.wp
  rw [ha.eval,he,Oper.upon_skip,hd]
  exact h _ (ha.put_none undef)
def Ret (P:Program) (f:FuncId) (args:List Value) (w:World) (R:Value → World → Prop):Prop :=
  Calls P f args.toArray w fun e w' => ∃ v,e = .returned v∧R v w'
theorem Ret.mono {f : FuncId} {args : List Value} {R R' : Value → World → Prop} (h : Ret P f args w R) (hr : ∀ v w', R v w' → R' v w') : Ret P f args w R' :=
  Calls.mono h fun _ _ ⟨v,h1,h2⟩=>⟨v,h1,hr _ _ h2⟩
def Pan (P:Program) (f:FuncId) (args:List Value) (w:World) (R:Value → World → Prop):Prop :=
  Calls P f args.toArray w fun e w' => ∃ v,e = .panicked [{ v,recovered:=false }]∧R v w'
theorem RL.enter {f:FuncId} {args:List Value} {R:Value → World → Prop} {d:Nat} (hc:Ret P f args w R) (hd:o.dst = some d) (hg:gd ops ρ o = true) (hN:Nat.blt d N = true)
    (he : (execOp (ev ρ) o).run P w = .ok (.enter f args.toArray) w) (h : ∀ v w', R v w' → RL P N ops Q rest (upd ρ d v) w') :
    RL P N ops Q (o :: rest) ρ w:=fun a ha=>by
  unfold wpList
  rw [ha.wanted,hg,if_pos rfl]
  refine .inl ?_
  unfold Oper.wp
  rw [ha.eval,he,Oper.upon_enter,hd]
  exact Calls.mono hc fun e w' ⟨v,h1,h2⟩=>by subst h1; exact h v w' h2 _ (ha.put hN v)
def finQ (P:Program) (N:Nat) (fn:Func) (R:Value → World → Prop):Exit → Da → World → Prop
  | .normal,ρ,w => ∃ v,(∀ a,EQ N a ρ → (results fn a.tmps).run P w = .ok v w)∧R v w∧dfr (ρ DS) = []
  | .ret,ρ,w => ∃ v,(∀ a,EQ N a ρ → (results fn a.tmps).run P w = .ok v w)∧R v w∧dfr (ρ DS) = []
  | _,_,_=>False
theorem finQ.n {fn:Func} {R:Value → World → Prop} {v:Value} (h1 : ∀ a,EQ N a ρ → (results fn a.tmps).run P w = .ok v w) (h2:R v w) (hd:dfr (ρ DS) = []:=by rfl):finQ P N fn R .normal ρ w:=⟨v,h1,h2,hd⟩
theorem aO {fn:Func} {R:Value → World → Prop} {v:Value} (h1 : ∀ a,EQ N a ρ → (results fn a.tmps).run P w = .ok v w) (h2:R v w) (hd:dfr (ρ DS) = []:=by rfl):finQ P N fn R .ret ρ w:=⟨v,h1,h2,hd⟩
def finP (R:Value → World → Prop):Exit → Da → World → Prop
  | .panic ch,ρ,w => ∃ v,ch = [{ v,recovered:=false }]∧R v w∧dfr (ρ DS) = []
  | _,_,_=>False
theorem finP.p {R:Value → World → Prop} {v:Value} (h2:R v w) (hd:dfr (ρ DS) = []:=by rfl):finP R (.panic [{ v,recovered:=false }]) ρ w:=⟨v,rfl,h2,hd⟩
theorem EQ.ini {args:List Value} (hs:(Nat.ble args.length N && Nat.ble N DS) = true):EQ N { tmps:=args.toArray ++ Array.replicate (N - args.toArray.size) undef,defers:=[] } (Eng.ini args):=by
  rw [Bool.and_eq_true] at hs
  have hs1:=Nat.le_of_ble_eq_true hs.1
  have hs2:=Nat.le_of_ble_eq_true hs.2
  have hget:(Eng.ini args) DS = undef:=by
    unfold Eng.ini
    rw [List.getD_eq_getElem?_getD,List.getElem?_eq_none (by omega)]; rfl
  refine ⟨by rw [hget]; rfl,?_,?_,hs2⟩
  · simp
    omega
  · intro t
    have hg:gt (Eng.ini args) t = Eng.ini args t:=by
      unfold gt
      cases hx:Nat.beq t DS with
      | false=>rfl
      | true=>have:=Nat.eq_of_beq_eq_true hx; subst this; rw [hget]; rfl
    rw [hg]
    simp only [Array.getD_eq_getD_getElem?,Eng.ini,List.getD_eq_getElem?_getD]
    rw [Array.getElem?_append]
    simp only [List.size_toArray,List.getElem?_toArray,Array.getElem?_replicate]
    split
    · rfl
    · rename_i hlt
      rw [List.getElem?_eq_none (by omega)]
      split <;> rfl
theorem aP {f:FuncId} {fn:Func} {c:Code} {args:List Value} {R:Value → World → Prop} (hf:P.funcs[f]? = some fn) (hb:fn.body = some c) (hN:fn.ntmps = N)
    (hs:(Nat.ble args.length N && Nat.ble N DS) = true) (h:CW P N c (finQ P N fn R) (ini args) w):Ret P f args w R:=by
  subst hN
  refine calls_of_wp hf hb (wp_mono (h _ (EQ.ini hs)) ?_)
  rintro e a w' ⟨ρ,h1,h2⟩
  cases e with
  | normal=>obtain ⟨v,hv,hR,hd⟩:=h2; exact ⟨h1.nd.trans hd,v,hv a h1,v,rfl,hR⟩
  | ret=>obtain ⟨v,hv,hR,hd⟩:=h2; exact ⟨h1.nd.trans hd,v,hv a h1,v,rfl,hR⟩
  | _=>exact h2.elim
theorem Pan.body {f:FuncId} {fn:Func} {c:Code} {args:List Value} {R:Value → World → Prop} (hf:P.funcs[f]? = some fn) (hb:fn.body = some c) (hN:fn.ntmps = N)
    (hs:(Nat.ble args.length N && Nat.ble N DS) = true) (h:CW P N c (finP R) (ini args) w):Pan P f args w R:=by
  subst hN
  refine calls_of_wp hf hb (wp_mono (h _ (EQ.ini hs)) ?_)
  rintro e a w' ⟨ρ,h1,h2⟩
  cases e with
  | panic ch=>obtain ⟨v,hv,hR,hd⟩:=h2; exact ⟨h1.nd.trans hd,v,by rw [hv],hR⟩
  | _=>exact h2.elim
theorem Ba {fn:Func} {t:Nat} {v:Value} (h:fn.results = #[.tmp t]) (hv:gt ρ t = v) : ∀ a,EQ N a ρ → (results fn a.tmps).run P w = .ok v w:=fun a ha=>by
  rw [results_tmp h,ha.at_,hv]
theorem res0 {fn:Func} (h:fn.results = #[]) : ∀ a,EQ N a ρ → (results fn a.tmps).run P w = .ok (.tuple #[]) w:=fun a _=>by
  rw [results_none h]
theorem res2 {fn:Func} {t u:Nat} {v x:Value} (h:fn.results = #[.tmp t,.tmp u]) (hv:gt ρ t = v) (hx:gt ρ u = x) : ∀ a,EQ N a ρ → (results fn a.tmps).run P w = .ok (.tuple #[v,x]) w:=fun a ha=>by
  rw [results_tmp2 h,ha.at_,ha.at_,hv,hx]
theorem res3 {fn:Func} {t u s:Nat} {v x y:Value} (h:fn.results = #[.tmp t,.tmp u,.tmp s]) (hv:gt ρ t = v) (hx:gt ρ u = x) (hy:gt ρ s = y) : ∀ a,EQ N a ρ → (results fn a.tmps).run P w = .ok (.tuple #[v,x,y]) w:=fun a ha=>by
  rw [results_tmp3 h,ha.at_,ha.at_,ha.at_,hv,hx,hy]
theorem aQ {A:Da → World → Prop} (h:A ρ w):thn A Q .normal ρ w:=h
theorem aR {A:Da → World → Prop} (h:Q .ret ρ w):thn A Q .ret ρ w:=h
theorem aS {A:Da → World → Prop} {i:Nat} (h:Q (.exit i) ρ w):thn A Q (.exit i) ρ w:=h
theorem aT {A:Da → World → Prop} {c:List PanicEntry} (h:Q (.panic c) ρ w):thn A Q (.panic c) ρ w:=h
theorem inB.n {i:Nat} (h:Q .normal ρ w):inB i Q .normal ρ w:=h
theorem inB.r {i:Nat} (h:Q .ret ρ w):inB i Q .ret ρ w:=h
theorem inB.p {i:Nat} {c:List PanicEntry} (h:Q (.panic c) ρ w):inB i Q (.panic c) ρ w:=h
theorem Bo {i:Nat} (h:Q .normal ρ w):inB i Q (.exit i) ρ w:=by unfold inB; simpa using h
theorem inB.x {i k:Nat} (hne:Nat.beq k i = false) (h:Q (.exit k) ρ w):inB i Q (.exit k) ρ w:=by unfold inB; simpa [hne] using h
theorem CW.cut {x y : Code} (m : Nat → Bool) (A : Da → World → Prop) (hx : CW P N x (thn (fun ρ' w' => Out m ρ' ρ ∧ A ρ' w') Q) ρ w)
    (hy : ∀ ρ' w', Out m ρ' ρ → A ρ' w' → CW P N y Q ρ' w') : CW P N (.seq x y) Q ρ w :=
  aD (CW.mono hx fun e ρ' w' h=>by
    cases e with
    | normal=>exact hy ρ' w' h.1 h.2
    | _=>exact h)
theorem RL.br {p:Prop} [Decidable p] {d:Nat} (hd:o.dst = some d) (hg:gd ops ρ o = true) (hN:Nat.blt d N = true) (he : ∀ r,decide p = r → Ex P ρ o w (.bool r) w)
    (ht:p → RL P N ops Q rest (upd ρ d (.bool true)) w) (hf : ¬ p → RL P N ops Q rest (upd ρ d (.bool false)) w):RL P N ops Q (o :: rest) ρ w:=by
  by_cases h:p
  · exact aN hd hg hN (he true (decide_eq_true h)) (ht h)
  · exact aN hd hg hN (he false (decide_eq_false h)) (hf h)
theorem run_call {f:FuncId} {al:List Operand} {l:List Value} {tys:Array TypeId} {ty:TypeId} {ps:String} {af:Array Edge} {gu:Option (Nat × Bool)} {d:Option Tmp}
    (hc : ∀ (args:Array Value) (w:World),(callFunc f args).run P w = .ok (.enter f args) w) (ha:al.map (ev ρ) = l) :
    (execOp (ev ρ) ⟨d,.call ⟨.value (.func f),al.toArray,tys⟩,ty,ps,af,gu⟩).run P w = .ok (.enter f l.toArray) w:=by
  subst ha
  simp [execOp,resolve,Deferred.ofValue,ev,invoke,hc]
theorem run_callV {f:FuncId} {x:Operand} {fs cs:List Value} {al:List Operand} {l:List Value} {tys:Array TypeId} {ty:TypeId} {ps:String} {af:Array Edge} {gu:Option (Nat × Bool)} {d:Option Tmp}
    (hc : ∀ (args:Array Value) (w:World),(callFunc f args).run P w = .ok (.enter f args) w) (hx:ev ρ x = .func (.func f) fs.toArray cs.toArray) (ha:fs ++ al.map (ev ρ) ++ cs = l) :
    (execOp (ev ρ) ⟨d,.call ⟨.value x,al.toArray,tys⟩,ty,ps,af,gu⟩).run P w = .ok (.enter f l.toArray) w:=by
  subst ha
  simp [execOp,resolve,Deferred.ofValue,hx,invoke,hc]
theorem aU {f:FuncId} {al:List Operand} {l:List Value} {tys:Array TypeId} {ty:TypeId} {ps:String} {af:Array Edge} {gu:Option (Nat × Bool)} {d:Nat} {R:Value → World → Prop}
    (hc : ∀ (args:Array Value) (w:World),(callFunc f args).run P w = .ok (.enter f args) w) (hR:Ret P f l w R) (ha:al.map (ev ρ) = l)
    (hg:gd ops ρ ⟨some d,.call ⟨.value (.func f),al.toArray,tys⟩,ty,ps,af,gu⟩ = true) (hN:Nat.blt d N = true)
    (h : ∀ v w', R v w' → RL P N ops Q rest (upd ρ d v) w') : RL P N ops Q (⟨some d, .call ⟨.value (.func f), al.toArray, tys⟩, ty, ps, af, gu⟩ :: rest) ρ w :=
  RL.enter hR rfl hg hN (run_call hc ha) h
theorem aV {f:FuncId} {x:Operand} {fs cs:List Value} {al:List Operand} {l:List Value} {tys:Array TypeId} {ty:TypeId} {ps:String} {af:Array Edge} {gu:Option (Nat × Bool)} {d:Nat} {R:Value → World → Prop}
    (hc : ∀ (args:Array Value) (w:World),(callFunc f args).run P w = .ok (.enter f args) w) (hx:ev ρ x = .func (.func f) fs.toArray cs.toArray) (hR:Ret P f l w R) (ha:fs ++ al.map (ev ρ) ++ cs = l)
    (hg:gd ops ρ ⟨some d,.call ⟨.value x,al.toArray,tys⟩,ty,ps,af,gu⟩ = true) (hN:Nat.blt d N = true)
    (h : ∀ v w', R v w' → RL P N ops Q rest (upd ρ d v) w') : RL P N ops Q (⟨some d, .call ⟨.value x, al.toArray, tys⟩, ty, ps, af, gu⟩ :: rest) ρ w :=
  RL.enter hR rfl hg hN (run_callV hc hx ha) h
def QL (P:Program) (N:Nat) (ops:List Oper) (C:World → Prop) (Q:Da → Prop) (l:List Oper) (ρ:Da):Prop :=
  ∀ a,EQ N a ρ → wpQuiet P ops.toArray C (fun a => ∃ ρ,EQ N a ρ∧Q ρ) l a
theorem aW {id:Nat} {ops:List Oper} (C:World → Prop) (hm:P.follows .mixedOrders = true) (hB:Region.lexB .any ops.toArray = true) (hC:C { w with drawn:=w.drawn + 1 })
    (h : QL P N ops C (fun ρ' => ∀ w', C w' → Q .normal ρ' w') ops ρ) : CW P N (.region id ops.toArray true) Q ρ w := fun a ha =>
  wp_region_quiet (C:=C) hm hB hC (by
    have h1:=h a ha
    have mono : ∀ (l : List Oper) (a : Act), wpQuiet P ops.toArray C (fun a => ∃ ρ, EQ N a ρ ∧ ∀ w', C w' → Q .normal ρ w') l a → wpQuiet P ops.toArray C (fun a' => ∀ w', C w' → lft N Q .normal a' w') l a := by
      intro l
      induction l with
      | nil=>exact fun a ⟨ρ,h2,h3⟩ w' hw'=>⟨ρ,h2,h3 w' hw'⟩
      | cons o l ih =>
        intro a h
        unfold wpQuiet at h ⊢
        split
        · rename_i hh; rw [if_pos hh] at h; exact Oper.quiet_mono (fun a ha=>ih a ha) h
        · rename_i hh; rw [if_neg hh] at h; exact ih _ h
    exact mono _ _ h1)
theorem QL.nil {C:World → Prop} {q:Da → Prop} (h:q ρ):QL P N ops C q [] ρ:=fun _ ha=>⟨ρ,ha,h⟩
theorem QL.go {C:World → Prop} {q:Da → Prop} {d:Nat} {v:Value} (hd:o.dst = some d) (hg:gd ops ρ o = true) (hN:Nat.blt d N = true) (he : ∀ w,C w → Ex P ρ o w v w)
    (h:QL P N ops C q rest (upd ρ d v)):QL P N ops C q (o :: rest) ρ:=fun a ha=>by
  unfold wpQuiet
  rw [ha.wanted,hg,if_pos rfl]
  refine ⟨v,fun w hw=>?_,by rw [hd]; exact h _ (ha.put hN v)⟩
  unfold Oper.quietAt
  rw [ha.eval,he w hw]
  exact ⟨Z,rfl⟩
theorem QL.out {C:World → Prop} {q:Da → Prop} {d:Nat} (hd:o.dst = some d) (hg:gd ops ρ o = false) (hN:Nat.blt d N = true)
    (h:QL P N ops C q rest (upd ρ d undef)):QL P N ops C q (o :: rest) ρ:=fun a ha=>by
  unfold wpQuiet
  rw [ha.wanted,hg,if_neg (by simp),hd]
  exact h _ (ha.put hN undef)
theorem QL.br {C:World → Prop} {q:Da → Prop} {p:Prop} [Decidable p] {d:Nat} (hd:o.dst = some d) (hg:gd ops ρ o = true) (hN:Nat.blt d N = true) (he : ∀ r,decide p = r → ∀ w,C w → Ex P ρ o w (.bool r) w)
    (ht:p → QL P N ops C q rest (upd ρ d (.bool true))) (hf : ¬ p → QL P N ops C q rest (upd ρ d (.bool false))):QL P N ops C q (o :: rest) ρ:=by
  by_cases h:p
  · exact QL.go hd hg hN (he true (decide_eq_true h)) (ht h)
  · exact QL.go hd hg hN (he false (decide_eq_false h)) (hf h)
theorem QL.call {C:World → Prop} {q:Da → Prop} {f:FuncId} {al:List Operand} {l:List Value} {tys:Array TypeId} {ty:TypeId} {ps:String} {af:Array Edge} {gu:Option (Nat × Bool)} {d:Nat} {v:Value}
    (hc : ∀ (args : Array Value) (w : World), (callFunc f args).run P w = .ok (.enter f args) w) (hR : ∀ w, C w → Ret P f l w fun u w' => u = v ∧ C w') (ha : al.map (ev ρ) = l)
    (hg:gd ops ρ ⟨some d,.call ⟨.value (.func f),al.toArray,tys⟩,ty,ps,af,gu⟩ = true) (hN:Nat.blt d N = true)
    (h:QL P N ops C q rest (upd ρ d v)):QL P N ops C q (⟨some d,.call ⟨.value (.func f),al.toArray,tys⟩,ty,ps,af,gu⟩ :: rest) ρ:=fun a hq=>by
  unfold wpQuiet
  rw [hq.wanted,hg,if_pos rfl]
  refine ⟨v,fun w hw=>?_,h _ (hq.put hN v)⟩
  unfold Oper.quietAt
  rw [hq.eval,run_call hc ha]
  exact ⟨Z,Calls.mono (hR w hw) fun e w' ⟨u,h1,h2,h3⟩=>⟨by rw [h1,h2],h3⟩⟩
end
end Go.Eng
namespace Go.Eng
theorem cS {P : Program} {N : Nat} {Q : Exit → Da → World → Prop} {ρ : Da} {w : World} {ops : List Oper} {A : Da → World → Prop} (h : A ρ w) : RL P N ops (thn A Q) [] ρ w := aM (aQ h)
theorem cT {P : Program} {N : Nat} {Q : Exit → Da → World → Prop} {ρ : Da} {w : World} {id : Nat} {ops : List Oper} {y : Code} (h : RL P N ops (thn (CW P N y Q) Q) ops ρ w) : CW P N (.seq (.region id ops.toArray false) y) Q ρ w := aD (aL h)
end Go.Eng
namespace Go.Eng
open Go Go.RowKit
def Ob (w:World) (b:Nat) (T:TypeId) (cs:List Value):Prop:=w.heap[b]? = some (.cells cs.toArray T (0,0))
def Cl (w:World) (a:Addr) (cs:List Value):Prop := ∀ j u,cs[j]? = some u → w.cell? (a.add j) = some u
def Rd (w:World) (B k:Nat) (A:Option Addr) (xss:List (List Value)):Prop :=
  (∀ x ∈ xss,x.length = k)∧(xss ≠ [] → ∃ ad,A = some ad∧ad.block < B ∧ ∀ i x,xss[i]? = some x → Cl w (ad.add (i * k)) x)
theorem add_block (a:Addr) (n:Nat):(a.add n).block = a.block:=by unfold Addr.add; split <;> rfl
theorem add_add (a:Addr) (i j:Nat):(a.add i).add j = a.add (i + j):=by
  unfold Addr.add
  by_cases hi:i = 0 <;> by_cases hj:j = 0 <;> simp [hi,hj,Nat.add_assoc]
theorem add_lit (b o n:Nat):(⟨b,o,none⟩:Addr).add n = ⟨b,o + n,none⟩:=by unfold Addr.add; split <;> simp_all
section
variable {w w':World} {b T B k:Nat} {cs vs:List Value} {xss:List (List Value)} {A:Option Addr} {a:Addr}
theorem Ob.lt (h:Ob w b T cs):b < w.heap.size:=(Array.getElem?_eq_some_iff.1 h).1
theorem Ob.cell (h:Ob w b T cs) {i:Nat} {v:Value} (hv:cs[i]? = some v):w.cell? ⟨b,i,none⟩ = some v:=by
  rw [cell_of_row w b i cs.toArray T (0,0) h]; simpa using hv
theorem Ob.sub (h:Ob w b T cs) (off n:Nat):Cl w ⟨b,off,none⟩ ((cs.drop off).take n):=fun j u hu=>by
  rw [add_lit]
  rw [List.getElem?_take] at hu
  split at hu
  · rw [List.getElem?_drop] at hu; exact h.cell hu
  · cases hu
theorem Ob.cl (h:Ob w b T cs):Cl w ⟨b,0,none⟩ cs:=fun j u hu=>by rw [add_lit,Nat.zero_add]; exact h.cell hu
theorem Cl.at_ (h:Cl w a cs) {i:Nat} {v:Value} (hv:cs[i]? = some v):w.cell? (a.add i) = some v:=h i v hv
theorem Cl.sub (h:Cl w a cs) (off n:Nat):Cl w (a.add off) ((cs.drop off).take n):=fun j u hu=>by
  rw [add_add]
  rw [List.getElem?_take] at hu
  split at hu
  · rw [List.getElem?_drop] at hu; exact h _ _ hu
  · cases hu
theorem Ob.st0 (h:Ob w b T cs) (g:w.grownBy w' none):Ob w' b T cs:=(g.block b h.lt (by simp)).trans h
theorem Ob.st1 (h : Ob w b T cs) {b' : Nat} (g : w.grownBy w' (some b')) (hne : b ≠ b') : Ob w' b T cs := (g.block b h.lt (by simp [hne])).trans h
theorem Cl.st0 (h:Cl w a cs) (g:w.grownBy w' none):Cl w' a cs:=fun j u hu=>g.cell (h j u hu) (by simp)
theorem Cl.st1 (h : Cl w a cs) {b' : Nat} (g : w.grownBy w' (some b')) (hne : a.block ≠ b') : Cl w' a cs := fun j u hu => g.cell (h j u hu) (by rw [add_block]; simp [hne])
theorem Rd.st0 (h:Rd w B k A xss) (g:w.grownBy w' none):Rd w' B k A xss :=
  ⟨h.1,fun hn=>by obtain ⟨ad,e,hb,hc⟩:=h.2 hn; exact ⟨ad,e,hb,fun i x hx=>(hc i x hx).st0 g⟩⟩
theorem Rd.st1 (h : Rd w B k A xss) {b' : Nat} (g : w.grownBy w' (some b')) (hB : B ≤ b') : Rd w' B k A xss :=
  ⟨h.1,fun hn=>by obtain ⟨ad,e,hb,hc⟩:=h.2 hn; exact ⟨ad,e,hb,fun i x hx=>(hc i x hx).st1 g (by rw [add_block]; omega)⟩⟩
theorem Rd.more (h : Rd w B k A xss) {B' : Nat} (hB : B ≤ B') : Rd w B' k A xss :=
  ⟨h.1,fun hn=>by obtain ⟨ad,e,hb,hc⟩:=h.2 hn; exact ⟨ad,e,by omega,hc⟩⟩
theorem Rd.nil_ (w:World) (B k:Nat) (A:Option Addr):Rd w B k A []:=⟨by simp,fun h=>absurd rfl h⟩
theorem Rd.at_ (h:Rd w B k A xss) {i:Nat} {x:List Value} (hx:xss[i]? = some x) : ∃ ad,A = some ad∧ad.block < B∧Cl w (ad.add (i * k)) x:=by
  obtain ⟨ad,e,hb,hc⟩:=h.2 (by rintro rfl; simp at hx)
  exact ⟨ad,e,hb,hc i x hx⟩
theorem Rd.take (h:Rd w B k A xss) (n:Nat):Rd w B k A (xss.take n) :=
  ⟨fun x hx=>h.1 x (List.mem_of_mem_take hx),fun hn=>by
    obtain ⟨ad,e,hb,hc⟩:=h.2 (by rintro rfl; simp at hn)
    refine ⟨ad,e,hb,fun i x hx=>hc i x ?_⟩
    rw [List.getElem?_take] at hx
    split at hx
    · exact hx
    · cases hx⟩
theorem Rd.drop (h:Rd w B k A xss) {n c:Nat} (hc:xss.length ≤ c):Rd w B k (if c = n then A else A.map (·.add (n * k))) (xss.drop n) :=
  ⟨fun x hx=>h.1 x (List.mem_of_mem_drop hx),fun hn=>by
    obtain ⟨ad,rfl,hb,hcell⟩:=h.2 (by rintro rfl; simp at hn)
    have hlt:n < xss.length:=by
      rcases Nat.lt_or_ge n xss.length with h1 | h1
      · exact h1
      · rw [List.drop_eq_nil_of_le h1] at hn; exact absurd rfl hn
    rw [if_neg (by omega)]
    refine ⟨ad.add (n * k),rfl,by rw [add_block]; exact hb,fun i x hx=>?_⟩
    rw [add_add,← Nat.add_mul]
    exact hcell _ x (by rw [← hx,List.getElem?_drop])⟩
theorem Bs (w:World) (row:Option Nat):w.grownBy w row:=World.grownBy.refl w row
theorem Ac {w1 w2:World} (g:w.grownBy w1 none) (h:w1.grownBy w2 none):w.grownBy w2 none :=
  ⟨h.os.trans g.os,h.tape.trans g.tape,h.output.trans g.output,Nat.le_trans g.size h.size,fun k hk _=>(h.block k (Nat.lt_of_lt_of_le hk g.size) (by simp)).trans (g.block k hk (by simp))⟩
theorem Bb {w1 w2:World} {b:Nat} (g:w.grownBy w1 none) (h:w1.grownBy w2 (some b)) (hb:w.heap.size ≤ b):w.grownBy w2 none :=
  ⟨h.os.trans g.os,h.tape.trans g.tape,h.output.trans g.output,Nat.le_trans g.size h.size,fun k hk _=>(h.block k (Nat.lt_of_lt_of_le hk g.size) (by simp; omega)).trans (g.block k hk (by simp))⟩
end
section
variable {P:Program} {N:Nat} {Q Q':Exit → Da → World → Prop} {ρ:Da} {w:World} {ops rest:List Oper} {d:Option Tmp} {ty:TypeId} {ps:String} {af:Array Edge} {gu:Option (Nat × Bool)}
variable {x y z:Operand} {v u:Value} {t t' ty':TypeId}
theorem aX (h:ev ρ x = v):Ex P ρ ⟨d,.move x,ty,ps,af,gu⟩ w v w:=by unfold Ex; simp only [execOp,h]; rfl
theorem aY (h:ev ρ x = v):Ex P ρ ⟨d,.assign x,ty,ps,af,gu⟩ w v w:=by unfold Ex; simp only [execOp,h]; rfl
theorem aZ (hx:ev ρ x = .bool true) (h:ev ρ y = v):Ex P ρ ⟨d,.pick x y z,ty,ps,af,gu⟩ w v w:=by unfold Ex; simp only [execOp,hx,h]; rfl
theorem bA (hx:ev ρ x = .bool false) (h:ev ρ z = v):Ex P ρ ⟨d,.pick x y z,ty,ps,af,gu⟩ w v w:=by unfold Ex; simp only [execOp,hx,h]; rfl
theorem bB {vs:List Value} {i:Nat} (hx:ev ρ x = .tuple vs.toArray) (h:vs[i]? = some v):Ex P ρ ⟨d,.extract x i,ty,ps,af,gu⟩ w v w:=by
  unfold Ex; simp [execOp,hx,Instr.extract,h]
theorem bC {b:Bool} (hx:ev ρ x = .bool b):Ex P ρ ⟨d,.unOp .not ty' x,ty,ps,af,gu⟩ w (.bool (!b)) w:=by
  unfold Ex; simp only [execOp,hx]; rfl
theorem Cc {s : Sem Value} {w' : World} (h : s.run P w = .ok v w') : (do pure (.value (← s)) : Sem Next).run P w = .ok (.value v) w' := by
  simp [h]
theorem bD {s:TypeId} {f off:Nat} {a b:Addr} {fs:Array Field} {fd:Field} {n:Nat} (hs:P.underlying s = some (.struct fs)) (hf:fs[f]? = some fd) (hz : ∀ w:World,(sizeOf fd.type).run P w = .ok (n + 1) w) (ho:fd.offset = off)
    (hx:ev ρ x = .pointer (some a)) (hv:a.add off = b):Ex P ρ ⟨d,.fieldAddr s x f,ty,ps,af,gu⟩ w (.pointer (some b)) w:=by
  subst hv; subst ho
  unfold Ex
  refine Cc ?_
  simp [Instr.fieldAt,run_underlying hs,hf,hx,Instr.sureAddr,fieldPlace,hz]
structure Whole (P:Program) (t:TypeId) (n:Nat):Prop where
  agg : ∀ w:World,(isAgg t).run P w = .ok true w
  size : ∀ w:World,(sizeOf t).run P w = .ok n w
structure Lone (P:Program) (t:TypeId):Prop where
  agg : ∀ w:World,(isAgg t).run P w = .ok false w
  size : ∀ w:World,(sizeOf t).run P w = .ok 1 w
theorem run_loadVar1 {t:TypeId} {a:Addr} (ht:Lone P t) (hc:w.cell? a = some v):(loadVar t a).run P w = .ok v w:=by
  simp [loadVar,ht.agg,run_load,hc]
theorem run_loadVarN {t:TypeId} {a:Addr} {cs:List Value} (ht:Whole P t cs.length) (hc:Cl w a cs):(loadVar t a).run P w = .ok (.agg cs.toArray) w:=by
  simp [loadVar,ht.agg,ht.size,run_loadCells_list w a cs hc]
theorem bE {t:TypeId} {T b off:Nat} {cs vs cs':List Value} (hs : ∀ w:World,(sizeOf t).run P w = .ok vs.length w) (ho:Ob w b T cs) (hx:ev ρ x = .pointer (some ⟨b,off,none⟩))
    (hy : (ev ρ y).cells = vs.toArray) (h1 : vs.all Value.oneCell' = true) (hfit : Nat.ble (off + vs.length) cs.length = true) (hcs : cs.take off ++ vs ++ cs.drop (off + vs.length) = cs') (hg : gd ops ρ ⟨none, .store t x y, ty, ps, af, gu⟩ = true)
    (h : ∀ w', w'.heap.size = w.heap.size → w.grownBy w' (some b) → Ob w' b T cs' → RL P N ops Q rest ρ w') : RL P N ops Q (⟨none, .store t x y, ty, ps, af, gu⟩ :: rest) ρ w := by
  subst hcs
  have hst:=run_storeCells_at P b off T vs 0 cs.toArray w ho (by simpa using hfit) (by simpa using h1)
  refine RL.unit (w':=w.setRow b (cs.take off ++ vs ++ cs.drop (off + vs.length)).toArray) Z hg ?_ (h _ ?_ ?_ ?_)
  · simp only [Nat.add_zero] at hst
    simp [execOp,Instr.storeAt,hx,Instr.sureAddr,storeVar,hy,hs]
    simp at hst
    rw [hst]
    rfl
  · simp [World.setRow]
  · exact ⟨Z,rfl,rfl,by simp [World.setRow],fun k _ hne=>by
      simp only [World.setRow,Array.getElem?_modify]
      rw [if_neg (by rintro rfl; exact hne rfl)]⟩
  · exact setRow_heap w b _ _ T (0,0) ho
theorem bG {t:TypeId} {dd:Nat} {zv:Value} {cs:List Value} (hz : ∀ w:World,(zeroValue t).run P w = .ok zv w) (hcs:zv.cells = cs.toArray) (hg:gd ops ρ ⟨some dd,.alloc t,ty,ps,af,gu⟩ = true) (hN:Nat.blt dd N = true)
    (h : ∀ w' b, b = w.heap.size → w'.heap.size = w.heap.size + 1 → w.grownBy w' none → Ob w' b t cs → RL P N ops Q rest (upd ρ dd (.pointer (some ⟨b, 0, none⟩))) w') :
    RL P N ops Q (⟨some dd,.alloc t,ty,ps,af,gu⟩ :: rest) ρ w:=by
  refine aN (w':=w.alloc (.cells cs.toArray t)) Z hg hN ?_ (h _ _ Z (by simp) (World.grownBy_alloc w _ none) (heap_alloc_new w _))
  unfold Ex
  refine Cc ?_
  simp [Instr.alloc,hz,newVar,newRow,hcs]
theorem bH {t:TypeId} {dd:Nat} {cs:List Value} (hx:(ev ρ x).cells = cs.toArray) (hg:gd ops ρ ⟨some dd,.box t x,ty,ps,af,gu⟩ = true) (hN:Nat.blt dd N = true)
    (h : ∀ w' b, b = w.heap.size → w'.heap.size = w.heap.size + 1 → w.grownBy w' none → Ob w' b t cs → RL P N ops Q rest (upd ρ dd (.pointer (some ⟨b, 0, none⟩))) w') :
    RL P N ops Q (⟨some dd,.box t x,ty,ps,af,gu⟩ :: rest) ρ w:=by
  refine aN (w':=w.alloc (.cells cs.toArray t)) Z hg hN ?_ (h _ _ Z (by simp) (World.grownBy_alloc w _ none) (heap_alloc_new w _))
  unfold Ex
  refine Cc ?_
  simp [Instr.box,newVar,newRow,hx]
theorem bI {k:IntKind} {a b r:Int} (hx:ev ρ x = .int k a) (hy:ev ρ y = .int k b) (hr:k.wrap (a + b) = r):Ex P ρ ⟨d,.binOp .add t x y t',ty,ps,af,gu⟩ w (.int k r) w:=by
  subst hr; unfold Ex; refine Cc ?_; simp [hx,hy,eqGuard,binOp,Op.intArith]
theorem bJ {k:IntKind} {a b r:Int} (hx:ev ρ x = .int k a) (hy:ev ρ y = .int k b) (hr:k.wrap (a - b) = r):Ex P ρ ⟨d,.binOp .sub t x y t',ty,ps,af,gu⟩ w (.int k r) w:=by
  subst hr; unfold Ex; refine Cc ?_; simp [hx,hy,eqGuard,binOp,Op.intArith]
theorem bK {k:IntKind} {a b r:Int} (hx:ev ρ x = .int k a) (hy:ev ρ y = .int k b) (hr:k.wrap (a * b) = r):Ex P ρ ⟨d,.binOp .mul t x y t',ty,ps,af,gu⟩ w (.int k r) w:=by
  subst hr; unfold Ex; refine Cc ?_; simp [hx,hy,eqGuard,binOp,Op.intArith]
theorem Ex.rem {k:IntKind} {a b r:Int} (hx:ev ρ x = .int k a) (hy:ev ρ y = .int k b) (hb:b ≠ 0) (hr:a.tmod b = r):Ex P ρ ⟨d,.binOp .rem t x y t',ty,ps,af,gu⟩ w (.int k r) w:=by
  subst hr; unfold Ex; refine Cc ?_; simp [hx,hy,eqGuard,binOp,Op.intDiv,hb]
theorem Ex.eq {k:IntKind} {a b:Int} {r:Bool} (hx:ev ρ x = .int k a) (hy:ev ρ y = .int k b) (hr:(a == b) = r):Ex P ρ ⟨d,.binOp .eql t x y t',ty,ps,af,gu⟩ w (.bool r) w:=by
  subst hr; unfold Ex; refine Cc ?_; simp [hx,hy,eqGuard,binOp,Op.intCmp]
theorem Ex.ne {k:IntKind} {a b:Int} {r:Bool} (hx:ev ρ x = .int k a) (hy:ev ρ y = .int k b) (hr:(a != b) = r):Ex P ρ ⟨d,.binOp .neq t x y t',ty,ps,af,gu⟩ w (.bool r) w:=by
  subst hr; unfold Ex; refine Cc ?_; simp [hx,hy,eqGuard,binOp,Op.intCmp]
theorem bL {k:IntKind} {a b:Int} {r:Bool} (hx:ev ρ x = .int k a) (hy:ev ρ y = .int k b) (hr:decide (a < b) = r):Ex P ρ ⟨d,.binOp .lss t x y t',ty,ps,af,gu⟩ w (.bool r) w:=by
  subst hr; unfold Ex; refine Cc ?_; simp [hx,hy,eqGuard,binOp,Op.intCmp]
theorem bM {k:IntKind} {a b:Int} {r:Bool} (hx:ev ρ x = .int k a) (hy:ev ρ y = .int k b) (hr:decide (a ≤ b) = r):Ex P ρ ⟨d,.binOp .leq t x y t',ty,ps,af,gu⟩ w (.bool r) w:=by
  subst hr; unfold Ex; refine Cc ?_; simp [hx,hy,eqGuard,binOp,Op.intCmp]
theorem bN {k:IntKind} {a b:Int} {r:Bool} (hx:ev ρ x = .int k a) (hy:ev ρ y = .int k b) (hr:decide (b < a) = r):Ex P ρ ⟨d,.binOp .gtr t x y t',ty,ps,af,gu⟩ w (.bool r) w:=by
  subst hr; unfold Ex; refine Cc ?_; simp [hx,hy,eqGuard,binOp,Op.intCmp]
theorem bO {k:IntKind} {a b:Int} {r:Bool} (hx:ev ρ x = .int k a) (hy:ev ρ y = .int k b) (hr:decide (b ≤ a) = r):Ex P ρ ⟨d,.binOp .geq t x y t',ty,ps,af,gu⟩ w (.bool r) w:=by
  subst hr; unfold Ex; refine Cc ?_; simp [hx,hy,eqGuard,binOp,Op.intCmp]
theorem bP {k:IntKind} {a b:Int} {r:Bool} (hx:ev ρ x = .int k a) (hy:ev ρ y = .int k b) (hr:decide (a = b) = r):Ex P ρ ⟨d,.binOp .eql t x y t',ty,ps,af,gu⟩ w (.bool r) w :=
  Ex.eq hx hy (by rw [← hr]; rfl)
theorem bQ {k:IntKind} {a b:Int} {r:Bool} (hx:ev ρ x = .int k a) (hy:ev ρ y = .int k b) (hr:decide (a ≠ b) = r):Ex P ρ ⟨d,.binOp .neq t x y t',ty,ps,af,gu⟩ w (.bool r) w :=
  Ex.ne hx hy (by rw [← hr]; simp only [bne,decide_not]; rfl)
theorem Dl {r:Int} (h1 : -9223372036854775808 ≤ r) (h2:r ≤ 9223372036854775807):IntKind.i64.wrap r = r:=IntWalk.i64_in _ ⟨h1,h2⟩
theorem bR {t:TypeId} {e:TypeId} {A:Option Addr} {n c:Nat} (ht:P.underlying t = some (.slice e)) (hx:ev ρ x = .slice A n c) :
    Ex P ρ ⟨d,.call ⟨.builtin .len, #[x], #[t]⟩,ty,ps,af,gu⟩ w (.int .i64 (n:Int)) w:=by
  unfold Ex
  simp [execOp,resolve,invoke,builtin,hx,Builtin.len_,run_underlying ht,goInt]
theorem Ex.lenS {t:TypeId} {s:ByteArray} (ht:P.underlying t = some .string) (hx:ev ρ x = .string s) :
    Ex P ρ ⟨d,.call ⟨.builtin .len, #[x], #[t]⟩,ty,ps,af,gu⟩ w (.int .i64 (s.size:Int)) w:=by
  unfold Ex
  simp [execOp,resolve,invoke,builtin,hx,Builtin.len_,run_underlying ht,goInt]
theorem bS {t e:TypeId} {a:Addr} {n c i k:Nat} {I:Int} {b:Addr} (ht:P.underlying t = some (.slice e)) (hs : ∀ w:World,(sizeOf e).run P w = .ok k w) (hx:ev ρ x = .slice (some a) n c) (hy:ev ρ y = .int .i64 I) (hI:I = (i:Int)) (hi:i < n)
    (hb:a.add (i * k) = b):Ex P ρ ⟨d,.indexAddr t x y,ty,ps,af,gu⟩ w (.pointer (some b)) w:=by
  subst hb; subst hI
  unfold Ex; refine Cc ?_
  simp [Instr.indexAt,hx,hy,asIntOf,run_underlying ht,hs,hi]
theorem bU {t e:TypeId} {A:Option Addr} {n c i k:Nat} {I:Int} (ht:P.underlying t = some (.slice e)) (hs : ∀ w:World,(sizeOf e).run P w = .ok k w) (hx:ev ρ x = .slice A n c) (hy:ev ρ y = .int .i64 I) (hI:I = (i:Int)) (hi:i ≤ c) :
    Ex P ρ ⟨d,.slice t x none (some y) none,ty,ps,af,gu⟩ w (.slice A i c) w:=by
  subst hI
  unfold Ex; refine Cc ?_
  simp [Instr.sliceAt,Instr.slice,Instr.sliceBounds,Instr.sliceBound,hx,hy,asIntOf,run_underlying ht,hs,hi]
  intro _; cases A <;> simp [Addr.add]
theorem bV {t e:TypeId} {A:Option Addr} {n c i k:Nat} {I:Int} {v:Value} (ht:P.underlying t = some (.slice e)) (hs : ∀ w:World,(sizeOf e).run P w = .ok k w) (hx:ev ρ x = .slice A n c) (hy:ev ρ y = .int .i64 I) (hI:I = (i:Int)) (hi:i ≤ n)
    (hv : .slice (if c = i then A else A.map (·.add (i * k))) (n - i) (c - i) = v):Ex P ρ ⟨d,.slice t x (some y) none none,ty,ps,af,gu⟩ w v w:=by
  subst hI; subst hv
  unfold Ex; refine Cc ?_
  simp [Instr.sliceAt,Instr.slice,Instr.sliceBounds,Instr.sliceBound,hx,hy,asIntOf,run_underlying ht,hs,hi]
theorem Ax {a:Addr} (ht:Lone P t) (hc:w.cell? a = some v):(loadVar t a).run P w = .ok v w:=run_loadVar1 ht hc
theorem Aj {a:Addr} {cs:List Value} (ht:Whole P t cs.length) (hc:Cl w a cs):(loadVar t a).run P w = .ok (.agg cs.toArray) w:=run_loadVarN ht hc
theorem bW {a:Addr} (hx:ev ρ x = .pointer (some a)) (h:(loadVar t a).run P w = .ok v w):Ex P ρ ⟨d,.load t x,ty,ps,af,gu⟩ w v w:=by
  unfold Ex
  refine Cc ?_
  simp [Instr.loadAt,hx,Instr.sureAddr,h]
theorem Ex.mkf {fn:Fn} {f c:Array Operand} (h:Value.func fn (f.toList.map (ev ρ)).toArray (c.toList.map (ev ρ)).toArray = v):Ex P ρ ⟨d,.makeFunc fn f c,ty,ps,af,gu⟩ w v w:=by
  subst h; unfold Ex; refine Cc ?_
  rw [← Array.toList_map,← Array.toList_map]; rfl
theorem bX {a:Addr} (hx:ev ρ x = .pointer (some a)):Ex P ρ ⟨d,.nilCheck x,ty,ps,af,gu⟩ w (.pointer (some a)) w:=by
  unfold Ex; simp only [execOp,hx]; rfl
theorem Ex.mki {dd:TypeDesc} (hu:P.underlying t = some dd) (hn : ∀ ms,dd ≠ .interface ms) (hx:ev ρ x = v):Ex P ρ ⟨d,.makeInterface t x,ty,ps,af,gu⟩ w (.iface t v) w:=by
  unfold Ex; refine Cc ?_
  simp only [hx,Instr.makeInterface,Sem.run_bind,run_underlying hu,Result.andThen_ok]
  cases dd <;> first | rfl | exact absurd rfl (hn _)
structure Bld (P:Program) (t:TypeId) (z:List Value) (pl:List (Nat × Nat)):Prop where
  zero : ∀ w:World, ∃ zv:Value,(zeroValue t).run P w = .ok zv w∧zv.cells = z.toArray
  parts : ∃ fs:Array Field,P.underlying t = some (.struct fs) ∧ ∀ w:World,(fs.mapM fun f=>do pure (f.offset,← sizeOf f.type):Sem (Array (Nat × Nat))).run P w = .ok pl.toArray w
def fil (pl:List (Nat × Nat)):List Value → List (Nat × Value) → Option (List Value)
  | z,[]=>some z
  | z,(i,v) :: rest=>match pl[i]? with
    | none=>none
    | some (off,n)=>let cs:=v.cells.toList; if cs.length ≠ n || off + cs.length > z.length then none else fil pl (z.take off ++ cs ++ z.drop (off + cs.length)) rest
theorem foldl_set (off:Nat) : ∀ (cs:List Value) (k:Nat) (z:List Value),off + k + cs.length ≤ z.length →
    (cs.zipIdx k).foldl (fun (a:Array Value) (cj:Value × Nat)=>a.setIfInBounds (off + cj.2) cj.1) z.toArray = (z.take (off + k) ++ cs ++ z.drop (off + k + cs.length)).toArray
  | [],k,z,_=>by simp
  | c :: cs,k,z,h=>by
    simp only [List.zipIdx_cons,List.foldl_cons,List.setIfInBounds_toArray]
    simp only [List.length_cons] at h
    rw [foldl_set off cs (k + 1) (z.set (off + k) c) (by simp; omega)]
    congr 1
    have hlt:off + k < z.length:=by omega
    have h1:(z.set (off + k) c).take (off + (k + 1)) = z.take (off + k) ++ [c]:=by
      rw [show off + (k + 1) = (off + k) + 1 by omega,List.take_succ_eq_append_getElem (by simpa using hlt)]
      simp only [List.getElem_set_self,List.take_set_of_le (Nat.le_refl _)]
    have h2:(z.set (off + k) c).drop (off + (k + 1) + cs.length) = z.drop (off + k + (cs.length + 1)):=by
      rw [List.drop_set,if_pos (by omega)]
      congr 1; omega
    rw [h1,h2,List.length_cons]
    simp
theorem fill_fil (pl:List (Nat × Nat)) : ∀ (parts:List (Nat × Value)) (z:List Value),Instr.fill (pl.toArray[·]?) z.toArray parts = (fil pl z parts).map List.toArray
  | [],z=>rfl
  | (i,v) :: rest,z=>by
    unfold Instr.fill fil
    simp only [List.getElem?_toArray]
    cases hp:pl[i]? with
    | none=>rfl
    | some x =>
      obtain ⟨off,n⟩:=x
      simp only [List.size_toArray,Array.length_toList]
      by_cases hc:(decide (v.cells.size ≠ n) || decide (off + v.cells.size > z.length)) = true
      · simp only [hc,if_true]; rfl
      · simp only [hc]
        have h2:off + v.cells.size ≤ z.length:=by simp at hc; omega
        have hf:=foldl_set off v.cells.toList 0 z (by simpa using h2)
        have hz:v.cells.zipIdx = (v.cells.toList.zipIdx 0).toArray:=by apply Array.ext'; simp
        rw [hz,List.foldl_toArray,Nat.add_zero] at *
        have e1:List.foldl (fun (cs:Array Value) (x:Value × Nat)=>match x with | (c,j)=>cs.setIfInBounds (off + j) c) z.toArray v.cells.toList.zipIdx = _:=hf
        simp only [Bool.false_eq_true,if_false]
        have ih:=fill_fil pl rest (z.take off ++ v.cells.toList ++ z.drop (off + v.cells.toList.length))
        simp only [List.getElem?_toArray,Array.length_toList] at ih
        rw [e1]
        simp only [Array.length_toList]
        exact ih
theorem bY {z:List Value} {pl:List (Nat × Nat)} {parts:List (Nat × Operand)} {cs:List Value} (hb:Bld P t z pl) (h:fil pl z (parts.map fun px=>(px.1,ev ρ px.2)) = some cs) :
    Ex P ρ ⟨d,.build t parts.toArray,ty,ps,af,gu⟩ w (.agg cs.toArray) w:=by
  unfold Ex; refine Cc ?_
  obtain ⟨zv,hz,hzc⟩:=hb.zero w
  obtain ⟨fs,hu,hp⟩:=hb.parts
  have hf:=fill_fil pl (parts.map fun px=>(px.1,ev ρ px.2)) z
  rw [h] at hf
  simp only [Instr.build,Sem.run_bind,hz,Result.andThen_ok,run_underlying hu,hp,hzc]
  have e:((parts.toArray.map fun (x:Nat × Operand)=>match x with | (i,x)=>(i,ev ρ x)):Array (Nat × Value)).toList = parts.map fun px=>(px.1,ev ρ px.2):=by simp
  rw [e,hf]
  rfl
theorem lt_len {α:Type} {l:List α} {i:Nat} {x:α} (h:l[i]? = some x):i < l.length:=(List.getElem?_eq_some_iff.1 h).1
def Rv (P:Program) (N:Nat) (ρ:Da) (w:World) (r:ResultVar) (v:Value):Prop :=
  ∀ a,EQ N a ρ → ((match r with | .tmp t=>pure (a.tmps.getD t undef) | .cell x t=>do loadVar t (← asAddr (a.tmps.getD x undef))):Sem Value).run P w = .ok v w
theorem bZ {r:Nat} (h:gt ρ r = v):Rv P N ρ w (.tmp r) v:=fun a ha=>by simp [ha.at_,h]
theorem cA {r:Nat} {a:Addr} (h:gt ρ r = .pointer (some a)) (hl:(loadVar t a).run P w = .ok v w):Rv P N ρ w (.cell r t) v:=fun b hb=>by simp [hb.at_,h,asAddr,hl]
theorem resv1 {fn:Func} {r1:ResultVar} (h:fn.results = #[r1]) (h1:Rv P N ρ w r1 v) : ∀ a,EQ N a ρ → (results fn a.tmps).run P w = .ok v w:=fun a ha=>by
  have:=h1 a ha
  unfold results
  rw [h]
  simp only [Sem.run_bind,Array.mapM_eq_mapM_toList,List.mapM_cons,List.mapM_nil,Sem.run_map]
  simp at this ⊢
  cases r1 <;> simp_all
theorem Ch {fn:Func} {r1 r2:ResultVar} (h:fn.results = #[r1,r2]) (h1:Rv P N ρ w r1 v) (h2:Rv P N ρ w r2 u) : ∀ a,EQ N a ρ → (results fn a.tmps).run P w = .ok (.tuple #[v,u]) w:=fun a ha=>by
  have h1:=h1 a ha
  have h2:=h2 a ha
  unfold results
  rw [h]
  simp only [Sem.run_bind,Array.mapM_eq_mapM_toList,List.mapM_cons,List.mapM_nil,Sem.run_map]
  cases r1 <;> cases r2 <;> simp_all
def RP (P:Program) (f:FuncId) (args:List Value) (w:World) (R:Value → World → Prop) (X:World → Prop):Prop :=
  Calls P f args.toArray w fun e w' => (∃ v, e = .returned v ∧ R v w') ∨ (∃ v : TypeId × Value, e = .panicked [{ v := .iface v.1 v.2, recovered := false }] ∧ X w')
theorem RP.mono {f : FuncId} {args : List Value} {R R' : Value → World → Prop} {X X' : World → Prop} (h : RP P f args w R X) (hr : ∀ v w', R v w' → R' v w') (hx : ∀ w', X w' → X' w') : RP P f args w R' X' :=
  Calls.mono h fun _ _ hh=>hh.imp (fun ⟨v,h1,h2⟩=>⟨v,h1,hr _ _ h2⟩) (fun ⟨v,h1,h2⟩=>⟨v,h1,hx _ h2⟩)
def finRP (P:Program) (N:Nat) (fn:Func) (R:Value → World → Prop) (X:World → Prop):Exit → Da → World → Prop
  | .normal,ρ,w => ∃ v,(∀ a,EQ N a ρ → (results fn a.tmps).run P w = .ok v w)∧R v w∧dfr (ρ DS) = []
  | .ret,ρ,w => ∃ v,(∀ a,EQ N a ρ → (results fn a.tmps).run P w = .ok v w)∧R v w∧dfr (ρ DS) = []
  | .panic ch,ρ,w => ∃ v:TypeId × Value,ch = [{ v:=.iface v.1 v.2,recovered:=false }]∧X w∧dfr (ρ DS) = []
  | _,_,_=>False
theorem finRP.n {fn:Func} {R:Value → World → Prop} {X:World → Prop} (h1 : ∀ a,EQ N a ρ → (results fn a.tmps).run P w = .ok v w) (h2:R v w) (hd:dfr (ρ DS) = []:=by rfl):finRP P N fn R X .normal ρ w:=⟨v,h1,h2,hd⟩
theorem finRP.r {fn:Func} {R:Value → World → Prop} {X:World → Prop} (h1 : ∀ a,EQ N a ρ → (results fn a.tmps).run P w = .ok v w) (h2:R v w) (hd:dfr (ρ DS) = []:=by rfl):finRP P N fn R X .ret ρ w:=⟨v,h1,h2,hd⟩
theorem finRP.p {fn:Func} {R:Value → World → Prop} {X:World → Prop} {tv:TypeId × Value} (h:X w) (hd:dfr (ρ DS) = []:=by rfl):finRP P N fn R X (.panic [{ v:=.iface tv.1 tv.2,recovered:=false }]) ρ w:=⟨tv,rfl,h,hd⟩
theorem RP.body {f:FuncId} {fn:Func} {c:Code} {args:List Value} {R:Value → World → Prop} {X:World → Prop} (hf:P.funcs[f]? = some fn) (hb:fn.body = some c) (hN:fn.ntmps = N)
    (hs:(Nat.ble args.length N && Nat.ble N DS) = true) (h:CW P N c (finRP P N fn R X) (ini args) w):RP P f args w R X:=by
  subst hN
  refine calls_of_wp hf hb (wp_mono (h _ (EQ.ini hs)) ?_)
  rintro e a w' ⟨ρ,h1,h2⟩
  cases e with
  | normal=>obtain ⟨v,hv,hR,hd⟩:=h2; exact ⟨h1.nd.trans hd,v,hv a h1,.inl ⟨v,rfl,hR⟩⟩
  | ret=>obtain ⟨v,hv,hR,hd⟩:=h2; exact ⟨h1.nd.trans hd,v,hv a h1,.inl ⟨v,rfl,hR⟩⟩
  | panic ch=>obtain ⟨v,hv,hR,hd⟩:=h2; exact ⟨h1.nd.trans hd,.inr ⟨v,by rw [hv],hR⟩⟩
  | _=>exact h2.elim
theorem RL.enterRP {o:Oper} {f:FuncId} {args:List Value} {R:Value → World → Prop} {X:World → Prop} (hc:RP P f args w R X) (hg:gd ops ρ o = true)
    (he : (execOp (ev ρ) o).run P w = .ok (.enter f args.toArray) w) (h : ∀ v w', R v w' → ∀ a, EQ N a ρ → wpList P ops.toArray (lft N Q) rest (a.put o.dst v) w')
    (hx : ∀ (tv : TypeId × Value) w', X w' → Q (.panic [{ v := .iface tv.1 tv.2, recovered := false }]) ρ w') :
    RL P N ops Q (o :: rest) ρ w:=fun a ha=>by
  unfold wpList
  rw [ha.wanted,hg,if_pos rfl]
  refine .inl ?_
  unfold Oper.wp
  rw [ha.eval,he,Oper.upon_enter]
  refine Calls.mono hc fun e w' hh=>?_
  rcases hh with ⟨v,h1,h2⟩ | ⟨v,h1,h2⟩
  · subst h1; exact h v w' h2 a ha
  · subst h1; exact ⟨ρ,ha,hx v w' h2⟩
theorem cB {f:FuncId} {al:List Operand} {l:List Value} {tys:Array TypeId} {dd:Nat} {R:Value → World → Prop} {X:World → Prop}
    (hc : ∀ (args:Array Value) (w:World),(callFunc f args).run P w = .ok (.enter f args) w) (hR:RP P f l w R X) (ha:al.map (ev ρ) = l)
    (hg:gd ops ρ ⟨some dd,.call ⟨.value (.func f),al.toArray,tys⟩,ty,ps,af,gu⟩ = true) (hN:Nat.blt dd N = true)
    (h : ∀ v w', R v w' → RL P N ops Q rest (upd ρ dd v) w') (hx : ∀ (tv : TypeId × Value) w', X w' → Q (.panic [{ v := .iface tv.1 tv.2, recovered := false }]) ρ w') :
    RL P N ops Q (⟨some dd,.call ⟨.value (.func f),al.toArray,tys⟩,ty,ps,af,gu⟩ :: rest) ρ w :=
  RL.enterRP hR hg (run_call hc ha) (fun v w' h1 _ h2=>h v w' h1 _ (h2.put hN v)) hx
theorem cC {f:FuncId} {fs cs:List Value} {al:List Operand} {l:List Value} {tys:Array TypeId} {dd:Nat} {R:Value → World → Prop} {X:World → Prop}
    (hc : ∀ (args:Array Value) (w:World),(callFunc f args).run P w = .ok (.enter f args) w) (hy:ev ρ x = .func (.func f) fs.toArray cs.toArray) (hR:RP P f l w R X) (ha:fs ++ al.map (ev ρ) ++ cs = l)
    (hg:gd ops ρ ⟨some dd,.call ⟨.value x,al.toArray,tys⟩,ty,ps,af,gu⟩ = true) (hN:Nat.blt dd N = true)
    (h : ∀ v w', R v w' → RL P N ops Q rest (upd ρ dd v) w') (hx : ∀ (tv : TypeId × Value) w', X w' → Q (.panic [{ v := .iface tv.1 tv.2, recovered := false }]) ρ w') :
    RL P N ops Q (⟨some dd,.call ⟨.value x,al.toArray,tys⟩,ty,ps,af,gu⟩ :: rest) ρ w :=
  RL.enterRP hR hg (run_callV hc hy ha) (fun v w' h1 _ h2=>h v w' h1 _ (h2.put hN v)) hx
theorem RL.pan {tv:TypeId × Value} (hx:ev ρ x = .iface tv.1 tv.2) (hg:gd ops ρ ⟨none,.panic x,ty,ps,af,gu⟩ = true)
    (h:Q (.panic [{ v:=.iface tv.1 tv.2,recovered:=false }]) ρ w):RL P N ops Q (⟨none,.panic x,ty,ps,af,gu⟩ :: rest) ρ w:=fun a ha=>by
  unfold wpList
  rw [ha.wanted,hg,if_pos rfl]
  refine .inl ?_
  unfold Oper.wp
  rw [ha.eval]
  have:(execOp (ev ρ) ⟨none,.panic x,ty,ps,af,gu⟩).run P w = .halt (.panic (.iface tv.1 tv.2)) w:=by
    simp [execOp,hx,Instr.panic,goPanic]
  rw [this]
  exact ⟨ρ,ha,h⟩
theorem Ex.eqPn {e:TypeId} {a:Addr} (ht:P.underlying t = some (.pointer e)) (hx:ev ρ x = .pointer (some a)) (hy:ev ρ y = .pointer none):Ex P ρ ⟨d,.binOp .eql t x y t',ty,ps,af,gu⟩ w (.bool false) w:=by
  unfold Ex; refine Cc ?_
  have h : ∀ dd:Nat,(Op.equalIn (dd + 1) t (.pointer (some a)) (.pointer none)).run P w = .ok false w:=fun dd=>by
    simp [Op.equalIn,run_underlying ht]
  have h2:(binOp .eql t (.pointer (some a)) (.pointer none)).run P w = .ok (.bool false) w:=by
    simp only [binOp]
    simp [Op.equal,Op.maxDepth,h 9999]
  simp [hx,hy,eqGuard,h2]
theorem cD {k k' : IntKind} {a r : Int} {ts td : TypeId} (hs : P.underlying ts = some (.int k)) (hd : P.underlying td = some (.int k')) (hx : ev ρ x = .int k a) (hr : k'.wrap a = r) : Ex P ρ ⟨d, .convert ts td x, ty, ps, af, gu⟩ w (.int k' r) w := by
  subst hr; unfold Ex; refine Cc ?_
  simp [hx,convert,run_underlying hs,run_underlying hd,Conv.intToInt]
theorem Ex.shl {k k':IntKind} {a b r:Int} (hx:ev ρ x = .int k a) (hy:ev ρ y = .int k' b) (hb:0 ≤ b) (hr:k.wrap (a * 2 ^ (min b.toNat k.bits)) = r):Ex P ρ ⟨d,.binOp .shl t x y t',ty,ps,af,gu⟩ w (.int k r) w:=by
  subst hr; unfold Ex; refine Cc ?_
  simp [hx,hy,eqGuard,binOp,Op.shift,Int.not_lt.2 hb]
theorem cE {k k':IntKind} {a b r:Int} (hx:ev ρ x = .int k a) (hy:ev ρ y = .int k' b) (hb:0 ≤ b) (hr:a.fdiv (2 ^ (min b.toNat k.bits)) = r):Ex P ρ ⟨d,.binOp .shr t x y t',ty,ps,af,gu⟩ w (.int k r) w:=by
  subst hr; unfold Ex; refine Cc ?_
  simp [hx,hy,eqGuard,binOp,Op.shift,Int.not_lt.2 hb]
def iand (k:IntKind) (a b:Int):Int:=k.wrap ((BitVec.ofInt k.bits a &&& BitVec.ofInt k.bits b).toNat:Int)
def ior (k:IntKind) (a b:Int):Int:=k.wrap ((BitVec.ofInt k.bits a ||| BitVec.ofInt k.bits b).toNat:Int)
def ixor (k:IntKind) (a b:Int):Int:=k.wrap ((BitVec.ofInt k.bits a ^^^ BitVec.ofInt k.bits b).toNat:Int)
theorem Ex.and_ {k:IntKind} {a b r:Int} (hx:ev ρ x = .int k a) (hy:ev ρ y = .int k b) (hr:iand k a b = r):Ex P ρ ⟨d,.binOp .and t x y t',ty,ps,af,gu⟩ w (.int k r) w:=by
  subst hr; unfold Ex; refine Cc ?_; simp [hx,hy,eqGuard,binOp,Op.intBits,iand]
theorem Ex.or_ {k:IntKind} {a b r:Int} (hx:ev ρ x = .int k a) (hy:ev ρ y = .int k b) (hr:ior k a b = r):Ex P ρ ⟨d,.binOp .or t x y t',ty,ps,af,gu⟩ w (.int k r) w:=by
  subst hr; unfold Ex; refine Cc ?_; simp [hx,hy,eqGuard,binOp,Op.intBits,ior]
theorem Ex.xor_ {k:IntKind} {a b r:Int} (hx:ev ρ x = .int k a) (hy:ev ρ y = .int k b) (hr:ixor k a b = r):Ex P ρ ⟨d,.binOp .xor t x y t',ty,ps,af,gu⟩ w (.int k r) w:=by
  subst hr; unfold Ex; refine Cc ?_; simp [hx,hy,eqGuard,binOp,Op.intBits,ixor]
theorem RL.slR {e:TypeId} {A:Option Addr} {n c i k B dd:Nat} {J:Int} {xss:List (List Value)} (ht:P.underlying t = some (.slice e)) (hs : ∀ w:World,(sizeOf e).run P w = .ok k w) (hr:Rd w B k A xss)
    (hx:ev ρ x = .slice A n c) (hy:ev ρ y = .int .i64 J) (hI:J = (i:Int)) (hi:i ≤ n) (hc:xss.length ≤ c)
    (hg:gd ops ρ ⟨some dd,.slice t x (some y) none none,ty,ps,af,gu⟩ = true) (hN:Nat.blt dd N = true)
    (h : ∀ A',Rd w B k A' (xss.drop i) → RL P N ops Q rest (upd ρ dd (.slice A' (n - i) (c - i))) w):RL P N ops Q (⟨some dd,.slice t x (some y) none none,ty,ps,af,gu⟩ :: rest) ρ w :=
  aN rfl hg hN (bV ht hs hx hy hI hi rfl) (h _ (hr.drop hc))
theorem cF {t e:TypeId} {k n dd:Nat} {parts:List (Nat × Operand)} {zc cs:List Value} (ht:P.underlying t = some (.slice e)) (hs : ∀ w:World,(sizeOf e).run P w = .ok k w)
    (hz : ∀ w:World, ∃ zv:Value,(zeroValue e).run P w = .ok zv w∧zv.cells = zc.toArray) (hsm:Nat.ble (n * k) 16777216 = true) (hpos:Nat.blt 0 (n * k) = true)
    (hf:fil ((List.range n).map fun i=>(i * k,k)) ((List.range (n * k)).map fun i=>zc.getD (i % zc.length) undef) (parts.map fun px=>(px.1,ev ρ px.2)) = some cs) (hzk:0 < zc.length)
    (hin:parts.all (fun px=>Nat.blt px.1 n) = true)
    (hg:gd ops ρ ⟨some dd,.buildSlice t n parts.toArray,ty,ps,af,gu⟩ = true) (hN:Nat.blt dd N = true)
    (h : ∀ w' b, b = w.heap.size → w'.heap.size = w.heap.size + 1 → w.grownBy w' none → Ob w' b e cs → RL P N ops Q rest (upd ρ dd (.slice (some ⟨b, 0, none⟩) n n)) w') :
    RL P N ops Q (⟨some dd,.buildSlice t n parts.toArray,ty,ps,af,gu⟩ :: rest) ρ w:=by
  refine aN (w':=w.alloc (.cells cs.toArray e)) Z hg hN ?_ (h _ _ Z (by simp) (World.grownBy_alloc w _ none) (heap_alloc_new w _))
  unfold Ex
  refine Cc ?_
  obtain ⟨zv,hzv,hzc⟩:=hz w
  have hsm' : ¬ (n * k > 2 ^ 24):=by have:=Nat.le_of_ble_eq_true hsm; omega
  have hpos' : ¬ (n * k = 0) := by have : 0 < n * k := by simpa using hpos
                                   omega
  have hf2:=fill_fil ((List.range n).map fun i=>(i * k,k)) (parts.map fun px=>(px.1,ev ρ px.2)) ((List.range (n * k)).map fun i=>zc.getD (i % zc.length) undef)
  rw [hf] at hf2
  have key : ∀ (l:List (Nat × Value)) (z:Array Value),(∀ px ∈ l,px.1 < n) →
      Instr.fill (fun i=>some (i * k,k)) z l = Instr.fill (((List.range n).map fun i=>(i * k,k)).toArray[·]?) z l:=by
    intro l
    induction l with
    | nil=>intro z _; rfl
    | cons px l ih =>
      intro z hl
      obtain ⟨i,v⟩:=px
      have hi:i < n:=hl (i,v) (by simp)
      have e1:(((List.range n).map fun i=>(i * k,k)).toArray[i]?) = some (i * k,k):=by simp [hi]
      unfold Instr.fill
      simp only [e1]
      split
      · rfl
      · exact ih _ (fun px hpx=>hl px (by simp [hpx]))
  have harr:((Array.range (n * k)).map fun x=>zv.cells[x % zv.cells.size]!) = ((List.range (n * k)).map fun i=>zc.getD (i % zc.length) undef).toArray:=by
    apply Array.ext'
    simp only [Array.toList_map,Array.toList_range]
    refine List.map_congr_left fun i _=>?_
    rw [hzc]
    have hm:i % zc.length < zc.length:=Nat.mod_lt _ hzk
    simp [hm]
  simp only [Instr.buildSlice,Sem.run_bind,run_underlying ht,Result.andThen_ok,hs,if_neg hsm',if_neg hpos',Sem.run_pure,hzv]
  rw [harr]
  have hl:((parts.toArray.map fun (x:Nat × Operand)=>match x with | (i,x)=>(i,ev ρ x)):Array (Nat × Value)).toList = parts.map fun px=>(px.1,ev ρ px.2):=by simp
  rw [hl,key _ _ (by
    intro px hpx
    obtain ⟨q,hq,rfl⟩:=List.mem_map.1 hpx
    have:=List.all_eq_true.1 hin q hq
    simpa using this),hf2]
  simp [newRow,newObj,Sem.run]
structure Ow (w:World) (base e k:Nat) (A:Option Addr) (c:Nat) (xss:List (List Value)):Prop where
  own:w.ownsRow base e k (.slice A xss.length c) xss.length xss.flatten
  all : ∀ x ∈ xss,x.length = k
end
section
variable {w w':World} {base e k c n b T:Nat} {A:Option Addr} {xss:List (List Value)} {cs:List Value} {row:Option Nat}
theorem Ow.nil_ (w:World) (base e k:Nat):Ow w base e k none 0 []:=⟨World.ownsRow_nil w base e k,by simp⟩
theorem Ow.blk (h:Ow w base e k A c xss) {g:Nat} (hg:(Value.slice A n c).ownBlock = some g):base ≤ g∧g < w.heap.size :=
  h.own.lt g (by cases A <;> simp [Value.ownBlock] at hg ⊢; exact hg)
theorem Ow.ne_new (h:Ow w base e k A c xss) (hb:w.heap.size ≤ b):(Value.slice A n c).ownBlock ≠ some b:=fun hg=>by have:=h.blk hg; omega
theorem Ow.ne_old (h:Ow w base e k A c xss) (hb:b < base):(Value.slice A n c).ownBlock ≠ some b:=fun hg=>by have:=h.blk hg; omega
theorem Ow.ne_ty (h:Ow w base e k A c xss) (hb:Ob w b T cs) (hne:e ≠ T):(Value.slice A n c).ownBlock ≠ some b:=fun hg=>by
  rcases h.own.2 with ⟨h1,_⟩ | ⟨g,cap,cur,h1,_,h2,_⟩
  · injection h1 with h1; subst h1; simp [Value.ownBlock] at hg
  · injection h1 with h1; subst h1
    simp [Value.ownBlock] at hg
    subst hg
    unfold Ob at hb
    rw [hb] at h2
    injection h2 with h2
    injection h2 with _ h3
    exact hne h3.symm
theorem Ow.st0 (h:Ow w base e k A c xss) (g:w.grownBy w' none):Ow w' base e k A c xss :=
  ⟨h.own.kept g (by cases hv:(Value.slice A xss.length c).ownBlock <;> simp),h.all⟩
theorem Ow.st1 (h:Ow w base e k A c xss) (g:w.grownBy w' row) (hne:(Value.slice A xss.length c).ownBlock ≠ row):Ow w' base e k A c xss :=
  ⟨h.own.kept g (.inr hne),h.all⟩
theorem Ob.stO (h:Ob w b T cs) (g:w.grownBy w' (Value.slice A n c).ownBlock) (hne:(Value.slice A n c).ownBlock ≠ some b):Ob w' b T cs:=(g.block b h.lt (Ne.symm hne)).trans h
theorem Cl.stO {a:Addr} (h:Cl w a cs) (g:w.grownBy w' (Value.slice A n c).ownBlock) (hne:(Value.slice A n c).ownBlock ≠ some a.block):Cl w' a cs:=fun j u hu=>g.cell (h j u hu) (by rw [add_block]; exact Ne.symm hne)
theorem Rd.stO {B k':Nat} {A':Option Addr} {yss:List (List Value)} (h:Rd w B k' A' yss) (g:w.grownBy w' (Value.slice A n c).ownBlock) (own:Ow w base e k A c xss) (hB:B ≤ base):Rd w' B k' A' yss :=
  ⟨h.1,fun hn=>by
    obtain ⟨ad,e,hb,hc⟩:=h.2 hn
    exact ⟨ad,e,hb,fun i x hx=>(hc i x hx).stO g (by rw [add_block]; exact own.ne_old (by omega))⟩⟩
theorem Cu {w0 w1 w2:World} (g:w0.grownBy w1 row) (h:w1.grownBy w2 (Value.slice A n c).ownBlock) (own:Ow w1 base e k A c xss) (hb:w0.heap.size ≤ base):w0.grownBy w2 row :=
  ⟨h.os.trans g.os,h.tape.trans g.tape,h.output.trans g.output,Nat.le_trans g.size h.size,fun j hj hne=>(h.block j (Nat.lt_of_lt_of_le hj g.size) (Ne.symm (own.ne_old (by omega)))).trans (g.block j hj hne)⟩
theorem flat_get : ∀ {xss:List (List Value)} (_ : ∀ x ∈ xss,x.length = k) {i:Nat} {x:List Value} (_:xss[i]? = some x) {j:Nat} {u:Value} (_:x[j]? = some u),xss.flatten[i * k + j]? = some u
  | [],_,i,x,hx,_,_,_=>by simp at hx
  | y :: ys,hall,0,x,hx,j,u,hu=>by
    simp at hx; subst hx
    simp only [Nat.zero_mul,Nat.zero_add,List.flatten_cons]
    rw [List.getElem?_append_left (lt_len hu)]; exact hu
  | y :: ys,hall,i + 1,x,hx,j,u,hu=>by
    have hy:y.length = k:=hall y (by simp)
    simp only [List.getElem?_cons_succ] at hx
    simp only [List.flatten_cons]
    rw [show (i + 1) * k + j = y.length + (i * k + j) by rw [hy,Nat.add_mul]; omega,List.getElem?_append_right (by omega),Nat.add_sub_cancel_left]
    exact flat_get (fun x hx=>hall x (by simp [hx])) hx hu
theorem Ow.rd (h:Ow w base e k A c xss):Rd w w.heap.size k A xss:=by
  refine ⟨h.all,fun hn=>?_⟩
  rcases h.own.2 with ⟨h1,h2⟩ | ⟨g,cap,cur,h1,hb,hg,_⟩
  · exact absurd (List.length_eq_zero_iff.1 h2) hn
  · injection h1 with h1; subst h1
    refine ⟨_,rfl,(Array.getElem?_eq_some_iff.1 hg).1,fun i x hx j u hu=>?_⟩
    rw [add_add]
    exact h.own.cells (g:=g) Z _ u (flat_get h.all hx hu)
theorem Ow.cap (h:Ow w base e k A c xss):xss.length ≤ c:=by
  rcases h.own.2 with ⟨h1,h2⟩ | ⟨g,cap,cur,h1,_,_,h3,_⟩
  · injection h1 with _ _ h1; omega
  · injection h1 with _ _ h1; omega
theorem Ob.rd1 (h:Ob w b T cs) (hk:cs.length = k):Rd w (b + 1) k (some ⟨b,0,none⟩) [cs] :=
  ⟨by simpa using hk,fun _=>⟨_,rfl,by simp,fun i x hx=>by
    cases i with
    | zero=>simp at hx; subst hx; rw [Nat.zero_mul]; exact h.cl
    | succ i=>simp at hx⟩⟩
theorem Ow.of_ob (h:Ob w b T cs) (hk:cs.length = k) (hb:base ≤ b):Ow w base T k (some ⟨b,0,none⟩) 1 [cs] :=
  ⟨⟨by simpa using hk,.inr ⟨b,1,cs.toArray,rfl,hb,h,Nat.le_refl _,by unfold maxLen; decide,by simpa using hk,by simp [← hk]⟩⟩,by simpa using hk⟩
end
section
variable {P:Program} {N:Nat} {Q Q':Exit → Da → World → Prop} {ρ:Da} {w:World} {ops rest:List Oper} {d:Option Tmp} {ty:TypeId} {ps:String} {af:Array Edge} {gu:Option (Nat × Bool)}
variable {x y z:Operand} {v u:Value} {t t' ty':TypeId}
structure Elt (P:Program) (t e k bytes:Nat):Prop where
  ty:P.underlying t = some (.slice e)
  inf : ∃ i z,P.info? e = some i∧i.zero = some z∧i.size = k∧i.bytes = bytes∧z.cells.size = k
theorem cG {e k bytes base B n m c c2 dd:Nat} {A A2:Option Addr} {xss yss:List (List Value)} (he:Elt P t e k bytes) (hk:Nat.blt 0 k = true) (own:Ow w base e k A c xss) (hx:ev ρ x = .slice A n c) (hn:n = xss.length)
    (hr:Rd w B k A2 yss) (hy:ev ρ y = .slice A2 m c2) (hm:m = yss.length) (h1 : ∀ u ∈ yss.flatten,u.oneCell' = true) (hsz:(n + m) * bytes ≤ 140737488355328) (hmax:n + m ≤ 9223372036854775807) (hbase:base ≤ w.heap.size)
    (hg:gd ops ρ ⟨some dd,.call ⟨.builtin .append, #[x,y], #[t,t]⟩,ty,ps,af,gu⟩ = true) (hN:Nat.blt dd N = true)
    (h : ∀ w' A' c', w.grownBy w' (Value.slice A n c).ownBlock → Ow w' base e k A' c' (xss ++ yss) → RL P N ops Q rest (upd ρ dd (.slice A' (n + m) c')) w') :
    RL P N ops Q (⟨some dd,.call ⟨.builtin .append, #[x,y], #[t,t]⟩,ty,ps,af,gu⟩ :: rest) ρ w:=by
  subst hn; subst hm
  obtain ⟨i,z,hi,hz,hsize,hby,hzs⟩:=he.inf
  have hflat:yss.flatten.length = yss.length * k:=by
    have hall:=hr.1
    clear hr h hmax hsz hy h1
    induction yss with
    | nil=>simp
    | cons y ys ih=>simp only [List.flatten_cons,List.length_append,List.length_cons,hall y (by simp),ih (fun x hx=>hall x (by simp [hx])),Nat.add_mul,Nat.one_mul]; omega
  have hall2 : ∀ z ∈ xss ++ yss,z.length = k:=fun z hz=>by exact (List.mem_append.1 hz).elim (own.all z) (hr.1 z)
  have fin : ∀ v' w',(Builtin.append_ #[t,t] ty #[.slice A xss.length c,.slice A2 yss.length c2]).run P w = .ok v' w' → w'.ownsRow base e k v' (xss.length + yss.length) (xss.flatten ++ yss.flatten) → w.grownBy w' (Value.slice A xss.length c).ownBlock →
      RL P N ops Q (⟨some dd,.call ⟨.builtin .append, #[x,y], #[t,t]⟩,ty,ps,af,gu⟩ :: rest) ρ w:=by
    intro v' w' hrun ho hgr
    have hv : ∃ A' c',v' = .slice A' (xss.length + yss.length) c':=by
      rcases ho.2 with ⟨h1,h2⟩ | ⟨g,cap,cur,h1,_⟩
      · exact ⟨none,0,by rw [h1,h2]⟩
      · exact ⟨_,_,h1⟩
    obtain ⟨A',c',rfl⟩:=hv
    refine aN (w' := w') Z hg hN ?_ (h w' A' c' hgr ⟨by rw [List.length_append, List.flatten_append]; exact ho, hall2⟩)
    unfold Ex
    simp only [execOp,resolve,invoke,builtin,Sem.run_bind,Sem.run_pure,Result.andThen_ok,List.map_toArray,List.map_cons,List.map_nil,hx,hy,hrun]
  rcases A2 with _ | ad
  · have hn:yss = []:=by
      rcases yss with _ | ⟨y,ys⟩
      · rfl
      · obtain ⟨ad,h,_⟩:=hr.2 (by simp); cases h
    subst hn
    have hrun:(Builtin.append_ #[t,t] ty #[.slice A xss.length c,.slice none 0 c2]).run P w = .ok (.slice A xss.length c) w:=by
      rcases own.own.2 with ⟨h1,h2⟩ | ⟨g,cap,cur,h1,_,_,hnc,_⟩
      · rw [h1]; simp [Builtin.append_,run_underlying he.ty,sizeOf,typeInfo,hi,Builtin.lenOf,Builtin.firstCells]
      · rw [h1]; injection h1 with _ _ h1; simp [Builtin.append_,run_underlying he.ty,sizeOf,typeInfo,hi,Builtin.lenOf,Builtin.firstCells,hnc,storeCells]
    exact fin _ _ hrun (by simpa using own.own) (World.grownBy.refl w _)
  · have hcells : ∀ j u,yss.flatten[j]? = some u → w.cell? (ad.add j) = some u:=by
      intro j u hu
      rcases yss with _ | ⟨y,ys⟩
      · simp at hu
      · obtain ⟨ad',h',hb',hc'⟩:=hr.2 (by simp)
        injection h' with h'; subst h'
        have hall:=hr.1
        have gen : ∀ (zs:List (List Value)) (o:Nat),(∀ x ∈ zs,x.length = k) → (∀ i x,zs[i]? = some x → Cl w (ad.add ((o + i) * k)) x) → ∀ j u,zs.flatten[j]? = some u → w.cell? (ad.add (o * k + j)) = some u:=by
          intro zs
          induction zs with
          | nil=>intro o _ _ j u hu; simp at hu
          | cons z zs ih =>
            intro o hl hc j u hu
            have hz0:=hl z (by simp)
            simp only [List.flatten_cons] at hu
            rcases Nat.lt_or_ge j z.length with hj | hj
            · rw [List.getElem?_append_left hj] at hu
              have:=hc 0 z (by simp) j u hu
              rwa [Nat.add_zero,add_add] at this
            · rw [List.getElem?_append_right hj] at hu
              have:=ih (o + 1) (fun x hx=>hl x (by simp [hx])) (fun i x hx=>by have:=hc (i + 1) x (by simpa using hx); rwa [show o + (i + 1) = o + 1 + i by omega] at this) (j - z.length) u hu
              rwa [show (o + 1) * k + (j - z.length) = o * k + j by rw [hz0,Nat.add_mul]; omega] at this
        have:=gen (y :: ys) 0 hall (fun i x hx=>by rw [Nat.zero_add]; exact hc' i x hx) j u hu
        simpa using this
    obtain ⟨v',w',hrun,h2,h3,_⟩:=run_append_own (P:=P) w base t ty e i z k bytes he.ty hi hz hsize hby hzs (by simpa using hk) (.slice A xss.length c) xss.length xss.flatten own.own ad yss.length c2 yss.flatten hflat hcells h1 (by simp only [maxLen]; omega) hsz hbase
    exact fin v' w' hrun h2 h3
theorem Ex.eqS {xs ys:List Value} {r:Bool} (hgt:P.eqGuardType P.depth t = false) (he : ∀ w:World,(Op.equal t (.agg xs.toArray) (.agg ys.toArray)).run P w = .ok r w) (hx:ev ρ x = .agg xs.toArray) (hy:ev ρ y = .agg ys.toArray) :
    Ex P ρ ⟨d,.binOp .eql t x y t',ty,ps,af,gu⟩ w (.bool r) w:=by
  unfold Ex; refine Cc ?_
  simp [hx,hy,eqGuard,hgt,binOp,he]
theorem Ex.neS {xs ys:List Value} {r:Bool} (hgt:P.eqGuardType P.depth t = false) (he : ∀ w:World,(Op.equal t (.agg xs.toArray) (.agg ys.toArray)).run P w = .ok (!r) w) (hx:ev ρ x = .agg xs.toArray) (hy:ev ρ y = .agg ys.toArray) :
    Ex P ρ ⟨d,.binOp .neq t x y t',ty,ps,af,gu⟩ w (.bool r) w:=by
  unfold Ex; refine Cc ?_
  simp [hx,hy,eqGuard,hgt,binOp,he]
end
end Go.Eng
namespace Go.Eng
open Go Go.RowKit
section
variable {P:Program} {ops:Array Oper} {md:Region.Mode} {C:World → Prop}
def Hd (P:Program) (md:Region.Mode) (ops:Array Oper) (C:World → Prop) (n:Nat) (L:Array Bool → Act → Prop):Nat → Array Bool → Act → Prop
  | 0,li,a=>L li a
  | f + 1,li,a=>Region.ready md ops li ≠ [] ∧ ∀ i ∈ Region.ready md ops li,i < n∧qOp P ops C i (Hd P md ops C n L f (li.setIfInBounds i true)) a
theorem Hd.any {n g:Nat} {L:Array Bool → Act → Prop} {Q:Exit → Act → World → Prop} (hL : ∀ li a w,C w → L li a → wpAny P md ops Q g li a w) :
    ∀ (f:Nat) (li:Array Bool) (a:Act) (w:World),C w → Hd P md ops C n L f li a → wpAny P md ops Q (f + g) li a w
  | 0,li,a,w,hw,h=>by rw [Nat.zero_add]; exact hL _ _ _ hw h
  | f + 1,li,a,w,hw,h=>by
    rw [show f + 1 + g = (f + g) + 1 by omega]
    exact ⟨fun h0 => absurd h0 h.1, fun i hi => wpOp_of_qOp hw (fun a' w' hw' h' => Hd.any hL f _ a' w' hw' h') (h.2 i hi).2⟩
theorem Hd.first {n i:Nat} {oi:Oper} {v:Value} {L:Array Bool → Act → Prop} (hi:ops[i]? = some oi) (hsel : ∀ (j:Nat) (o:Oper) cs b,ops[j]? = some o → o.op ≠ .select cs b)
    (hs:Region.sinkB md ops n = true) (hc:Region.chainB md ops n = true) (hn:n < ops.size) (hin:i < n) (hend : ∀ li a,L li a → ∀ j ∈ Region.ready md ops li,n ≤ j) :
    ∀ (f:Nat) (li:Array Bool) (a:Act),HeadInv md ops n li →
      (∀ j oj,ops[j]? = some oj → j ≠ i → li.getD j true = false → (∀ e ∈ oj.after,Region.binds md e = true → e.on ≠ i) → oi.apart ops oj = true) →
      i ∈ Region.ready md ops li → YieldsIn P ops C oi v a → Hd P md ops C n L f (li.setIfInBounds i true) (a.put oi.dst v) → Hd P md ops C n L (f + 1) li a:=by
  intro f
  induction f with
  | zero =>
    intro li a inv _ hr hy H
    refine ⟨List.ne_nil_of_mem hr,fun j hj=>?_⟩
    have hjn:j < n:=Nat.lt_of_not_le fun hle=>tail_waits hs hc hn inv _ i rfl hin (mem_ready.1 hr).1 j hle hj
    by_cases hji:j = i
    · subst hji; exact ⟨hjn,hy.qOp hi H⟩
    · exact absurd (hend _ _ H j (ready_mono hj hji)) (by omega)
  | succ f ih =>
    intro li a inv hfree hr hy H
    have hun:=(mem_ready.1 hr).1
    refine ⟨List.ne_nil_of_mem hr,fun j hj=>?_⟩
    have hjn:j < n:=Nat.lt_of_not_le fun hle=>tail_waits hs hc hn inv _ i rfl hin hun j hle hj
    by_cases hji:j = i
    · subst hji; exact ⟨hjn,hy.qOp hi H⟩
    · refine ⟨hjn,?_⟩
      obtain ⟨hjun,oj,hoj,hall⟩:=mem_ready.1 hj
      have hnot : ∀ e ∈ oj.after,Region.binds md e = true → e.on ≠ i:=fun e he hb heq=>by
        have h1:=hall e he hb
        rw [heq,getD_both hun] at h1
        cases h1
      have h1:=(H.2 j (ready_mono hj hji)).2
      have h2:=qOp_put hoj (hfree j oj hoj hji hjun hnot) (fun cs b=>hsel i oi cs b hi) (fun cs b=>hsel j oj cs b hoj) hy h1
      refine qOp_mono (fun a' h3=>ih (li.setIfInBounds j true) a' (inv.set hj hjn) (fun k ok hk hki hu hno=>hfree k ok hk hki ?_ hno) (ready_mono hr (Ne.symm hji)) h3.1 ?_) h2
      · by_cases hjk:j = k
        · subst hjk; exact hjun
        · rwa [getD_set_ne true hjk] at hu
      · rw [Array.setIfInBounds_comm _ _ hji]; exact h3.2
theorem Hd.lex {n g:Nat} {q:Act → Prop} (hsel:Region.noSelect ops = true) (hs:Region.sinkB md ops n = true) (hc:Region.chainB md ops n = true) (hn:n < ops.size) :
    ∀ (l:List Oper) (k:Nat) (li:Array Bool) (a:Act),(∀ j,j < l.length → l[j]? = ops[k + j]?) → k + l.length = n → HeadInv md ops n li →
      Region.lexHead md ops g l.length k li = true → wpQuiet P ops C q l a → Hd P md ops C n (fun li' a' => Region.seqB md ops g n li' = true ∧ q a') l.length li a
  | [],k,li,a,_,hk,_,hB,h=>by
    have:k = n:=by simpa using hk
    subst this
    exact ⟨by simpa [Region.lexHead] using hB,h⟩
  | o :: l,k,li,a,hl,hk,inv,hB,h=>by
    have h0:ops[k]? = some o:=by simpa using (hl 0 (by simp)).symm
    simp only [List.length_cons,Region.lexHead,Bool.and_eq_true] at hB
    obtain ⟨⟨hr,hf⟩,hB'⟩:=hB
    have hkn:k < n:=by simp only [List.length_cons] at hk; omega
    have hr':k ∈ Region.ready md ops li:=by simpa using hr
    have hq:qOp P ops C k (wpQuiet P ops C q l) a:=by unfold qOp; simp only [h0]; exact h
    obtain ⟨v,hy,hK⟩:=yieldsIn_of_qOp h0 hq
    exact Hd.first h0 (Region.noSelect_spec hsel) hs hc hn hkn (fun _ _ hL=>seqB_ready hL.1) l.length li a inv (Region.free_spec h0 hf) hr' hy
      (Hd.lex hsel hs hc hn l (k + 1) _ _ (fun j hj=>by have:=hl (j + 1) (by simp; omega); simpa [Nat.add_assoc,Nat.add_comm 1 j] using this) (by simp only [List.length_cons] at hk; omega) (inv.set hr' hkn) hB' hK)
theorem wp_quiet_tail {id:Nat} {Q:Exit → Act → World → Prop} {a:Act} {w:World} {l:List Oper} (n:Nat) (hm:P.follows .mixedOrders = true) (hB:Region.lexTailB .any l.toArray n = true) (hC:C { w with drawn:=w.drawn + 1 })
    (h : wpQuiet P l.toArray C (fun a' => ∀ w', C w' → wpList P l.toArray Q (l.drop n) a' w') (l.take n) a) : (Code.region id l.toArray true).wp P Q a w := by
  simp only [Region.lexTailB,Bool.and_eq_true,decide_eq_true_eq] at hB
  obtain ⟨⟨⟨⟨hsel,hn⟩,hs⟩,hc⟩,hlex⟩:=hB
  have hn':n < l.length:=by simpa using hn
  have htl:(l.take n).length = n:=by rw [List.length_take]; omega
  have inv0:HeadInv .any l.toArray n (Array.replicate l.toArray.size false) :=
    ⟨by simp,fun j oj _ hl=>(by rw [getD_replicate_false] at hl; cases hl),fun t _ ht=>getD_in (by simpa using ht) (getD_replicate_false _ _)⟩
  have key:=Hd.lex (C:=C) (P:=P) (g:=l.toArray.size - n) hsel hs hc hn (l.take n) 0 (Array.replicate l.toArray.size false) a
    (fun j hj=>by rw [htl] at hj; simp [hj]) (by rw [Nat.zero_add,htl]) inv0 (by rw [htl]; exact hlex) h
  rw [htl] at key
  refine wp_region_any hm ?_
  have hsz:l.toArray.size = n + (l.toArray.size - n):=by omega
  have:=Hd.any (C:=C) (P:=P) (Q:=Q) (n:=n) (g:=l.toArray.size - n) (fun li a w hw hL=>by
    have h2:=wpAny_of_seq (Q':=Q) (l.drop n) n li a w (fun j=>by simp) (by simpa using hL.1) (hL.2 w hw)
    simpa using h2) n _ a _ hC key
  rw [← hsz] at this
  exact this
end
section
variable {P:Program} {N:Nat} {Q Q':Exit → Da → World → Prop} {ρ:Da} {w:World}
theorem cH {id:Nat} {ops:List Oper} (n:Nat) (C:World → Prop) (hm:P.follows .mixedOrders = true) (hB:Region.lexTailB .any ops.toArray n = true) (hC:C { w with drawn:=w.drawn + 1 })
    (h : QL P N ops C (fun ρ' => ∀ w', C w' → RL P N ops Q (ops.drop n) ρ' w') (ops.take n) ρ) : CW P N (.region id ops.toArray true) Q ρ w := fun a ha =>
  wp_quiet_tail (C:=C) n hm hB hC (by
    have h1:=h a ha
    have mono : ∀ (l : List Oper) (a : Act), wpQuiet P ops.toArray C (fun a => ∃ ρ, EQ N a ρ ∧ ∀ w', C w' → RL P N ops Q (ops.drop n) ρ w') l a →
        wpQuiet P ops.toArray C (fun a' => ∀ w', C w' → wpList P ops.toArray (lft N Q) (ops.drop n) a' w') l a := by
      intro l
      induction l with
      | nil=>exact fun a ⟨ρ,h2,h3⟩ w' hw'=>h3 w' hw' a h2
      | cons o l ih =>
        intro a h
        unfold wpQuiet at h ⊢
        split
        · rename_i hh; rw [if_pos hh] at h; exact Oper.quiet_mono (fun a ha=>ih a ha) h
        · rename_i hh; rw [if_neg hh] at h; exact ih _ h
    exact mono _ _ h1)
end
end Go.Eng
namespace Go.Eng
open Go Go.RowKit
abbrev J (x:Int):Value:=.int .i64 x
abbrev bT:Value:=.bool true
abbrev bF:Value:=.bool false
section
variable {P:Program} {N:Nat} {Q:Exit → Da → World → Prop} {ρ:Da} {w w':World} {ops rest:List Oper} {o:Oper} {ty:TypeId} {ps:String} {af:Array Edge} {gu:Option (Nat × Bool)} {d:Nat} {x y z:Operand} {t:TypeId}
theorem zg {v : Value} (h : (o.dst, gd ops ρ o, Nat.blt d N) = (some d, true, true)) (he : Ex P ρ o w v w') (k : RL P N ops Q rest (upd ρ d v) w') : RL P N ops Q (o :: rest) ρ w :=
  aN (congrArg (·.1) h) (congrArg (·.2.1) h) (congrArg (·.2.2) h) he k
theorem zo (h:(o.dst,gd ops ρ o,Nat.blt d N) = (some d,false,true)) (k:RL P N ops Q rest (upd ρ d undef) w):RL P N ops Q (o :: rest) ρ w :=
  RL.out (congrArg (·.1) h) (congrArg (·.2.1) h) (congrArg (·.2.2) h) k
theorem zm (v:Value) (h:(gd ops ρ ⟨some d,.move x,ty,ps,af,gu⟩,Nat.blt d N,ev ρ x) = (true,true,v)) (k:RL P N ops Q rest (upd ρ d v) w):RL P N ops Q (⟨some d,.move x,ty,ps,af,gu⟩ :: rest) ρ w :=
  aN rfl (congrArg (·.1) h) (congrArg (·.2.1) h) (aX (congrArg (·.2.2) h)) k
theorem za (v:Value) (h:(gd ops ρ ⟨some d,.assign x,ty,ps,af,gu⟩,Nat.blt d N,ev ρ x) = (true,true,v)) (k:RL P N ops Q rest (upd ρ d v) w):RL P N ops Q (⟨some d,.assign x,ty,ps,af,gu⟩ :: rest) ρ w :=
  aN rfl (congrArg (·.1) h) (congrArg (·.2.1) h) (aY (congrArg (·.2.2) h)) k
theorem zT (v:Value) (h:(gd ops ρ ⟨some d,.pick x y z,ty,ps,af,gu⟩,Nat.blt d N,ev ρ x,ev ρ y) = (true,true,.bool true,v)) (k:RL P N ops Q rest (upd ρ d v) w):RL P N ops Q (⟨some d,.pick x y z,ty,ps,af,gu⟩ :: rest) ρ w :=
  aN rfl (congrArg (·.1) h) (congrArg (·.2.1) h) (aZ (congrArg (·.2.2.1) h) (congrArg (·.2.2.2) h)) k
theorem zF (v:Value) (h:(gd ops ρ ⟨some d,.pick x y z,ty,ps,af,gu⟩,Nat.blt d N,ev ρ x,ev ρ z) = (true,true,.bool false,v)) (k:RL P N ops Q rest (upd ρ d v) w):RL P N ops Q (⟨some d,.pick x y z,ty,ps,af,gu⟩ :: rest) ρ w :=
  aN rfl (congrArg (·.1) h) (congrArg (·.2.1) h) (bA (congrArg (·.2.2.1) h) (congrArg (·.2.2.2) h)) k
theorem zx (v:Value) {i:Nat} {a:List Value} (h:(gd ops ρ ⟨some d,.extract x i,ty,ps,af,gu⟩,Nat.blt d N,ev ρ x,a[i]?) = (true,true,.tuple a.toArray,some v)) (k:RL P N ops Q rest (upd ρ d v) w):RL P N ops Q (⟨some d,.extract x i,ty,ps,af,gu⟩ :: rest) ρ w :=
  aN rfl (congrArg (·.1) h) (congrArg (·.2.1) h) (bB (congrArg (·.2.2.1) h) (congrArg (·.2.2.2) h)) k
theorem zl (v:Value) {b T off:Nat} {cs:List Value} (ht:Lone P t) (ho:Ob w b T cs) (h:(gd ops ρ ⟨some d,.load t x,ty,ps,af,gu⟩,Nat.blt d N,ev ρ x,cs[off]?) = (true,true,.pointer (some ⟨b,off,none⟩),some v)) (k:RL P N ops Q rest (upd ρ d v) w):RL P N ops Q (⟨some d,.load t x,ty,ps,af,gu⟩ :: rest) ρ w :=
  aN rfl (congrArg (·.1) h) (congrArg (·.2.1) h) (bW (congrArg (·.2.2.1) h) (Ax ht (Ob.cell ho (congrArg (·.2.2.2) h)))) k
theorem zc (p:Prop) [Decidable p] (h:(o.dst,gd ops ρ o,Nat.blt d N) = (some d,true,true)) (he : ∀ r,decide p = r → Ex P ρ o w (.bool r) w) (ht:p → RL P N ops Q rest (upd ρ d bT) w) (hf : ¬ p → RL P N ops Q rest (upd ρ d bF) w):RL P N ops Q (o :: rest) ρ w :=
  RL.br (congrArg (·.1) h) (congrArg (·.2.1) h) (congrArg (·.2.2) h) he ht hf
end
end Go.Eng
namespace Go.Eng
open Go Go.RowKit
structure Op where
  (kind h i n k v t:Int)
  deriving DecidableEq
def Op.cells (o:Op):List Value:=[.int .i64 o.kind,.int .i64 o.h,.int .i64 o.i,.int .i64 o.n,.int .i64 o.k,.int .i64 o.v,.int .i64 o.t]
structure Entry where
  (num view client seq:Int)
  op:Op
  deriving DecidableEq
def Entry.cells (e:Entry):List Value:=[.int .i64 e.num,.int .i64 e.view,.int .i64 e.client,.int .i64 e.seq,.int .i64 e.op.kind,.int .i64 e.op.h,.int .i64 e.op.i,.int .i64 e.op.n,.int .i64 e.op.k,.int .i64 e.op.v,.int .i64 e.op.t]
structure Sl where
  a:Option Addr
  n:Nat
  c:Nat
def Sl.val (s:Sl):Value:=.slice s.a s.n s.c
structure Row where
  (client seq code value:Int)
  deriving DecidableEq
def Row.cells (r:Row):List Value:=[.int .i64 r.client,.int .i64 r.seq,.int .i64 r.code,.int .i64 r.value]
structure Blk where
  (at_ ord:Int)
  deriving DecidableEq
def Blk.cells (b:Blk):List Value:=[.int .i64 b.at_,.int .i64 b.ord]
structure Obj where
  handle:Int
  blk:Blk
  words:List Int
  links:List Int
  deriving DecidableEq
structure RObj where
  handle:Int
  blk:Blk
  words:Sl
  links:Sl
def RObj.cells (r:RObj):List Value:=[.int .i64 r.handle,.int .i64 r.blk.at_,.int .i64 r.blk.ord,.slice r.words.a r.words.n r.words.c,.slice r.links.a r.links.n r.links.c]
structure Heap where
  order:Int
  objs:List Obj
  next:Int
  (t0 t1 t2 t3:Int)
  free:List Blk
  deriving DecidableEq
def Heap.tops (h:Heap):List Int:=[h.t0,h.t1,h.t2,h.t3]
structure RHeap where
  order:Int
  objs:Sl
  next:Int
  (t0 t1 t2 t3:Int)
  free:Sl
def RHeap.cells (h:RHeap):List Value:=[.int .i64 h.order,.slice h.objs.a h.objs.n h.objs.c,.int .i64 h.next,.int .i64 h.t0,.int .i64 h.t1,.int .i64 h.t2,.int .i64 h.t3,.slice h.free.a h.free.n h.free.c]
structure State where
  heap:Heap
  rows:List Row
  deriving DecidableEq
structure RState where
  heap:RHeap
  rows:Sl
def RState.cells (s:RState):List Value:=[.int .i64 s.heap.order,.slice s.heap.objs.a s.heap.objs.n s.heap.objs.c,.int .i64 s.heap.next,.int .i64 s.heap.t0,.int .i64 s.heap.t1,.int .i64 s.heap.t2,.int .i64 s.heap.t3,.slice s.heap.free.a s.heap.free.n s.heap.free.c,.slice s.rows.a s.rows.n s.rows.c]
structure RKept where
  (view normal base:Int)
  image:ByteArray
  ents:Sl
def RKept.cells (k:RKept):List Value:=[.int .i64 k.view,.int .i64 k.normal,.int .i64 k.base,.string k.image,.slice k.ents.a k.ents.n k.ents.c]
structure Kept where
  (view normal base:Int)
  image:List UInt8
  ents:List Entry
  deriving DecidableEq
def allI {α:Type} (p:Nat → α → Bool):Nat → List α → Bool
  | _,[]=>true
  | i,x :: l=>p i x && allI p (i + 1) l
theorem allI_take {α:Type} {p:Nat → α → Bool} {x:α} : ∀ {l:List α} {k:Nat} (_:l[k]? = some x) (i:Nat),allI p i (l.take (k + 1)) = (allI p i (l.take k) && p (i + k) x)
  | [],k,h,_=>by simp at h
  | y :: l,0,h,i=>by simp at h; subst h; simp [allI]
  | y :: l,k + 1,h,i=>by
    simp only [List.getElem?_cons_succ] at h
    simp only [List.take_succ_cons,allI,allI_take h (i + 1),Bool.and_assoc]
    rw [show i + 1 + k = i + (k + 1) by omega]
theorem allI_stop {α:Type} {p:Nat → α → Bool} {x:α} : ∀ {l:List α} {k:Nat} (_:l[k]? = some x) (i:Nat),p (i + k) x = false → allI p i l = false
  | [],k,h,_,_=>by simp at h
  | y :: l,0,h,i,hp=>by simp at h; subst h; simp [allI,show p i y = false from hp]
  | y :: l,k + 1,h,i,hp=>by
    simp only [List.getElem?_cons_succ] at h
    simp only [allI,allI_stop h (i + 1) (by rw [show i + 1 + k = i + (k + 1) by omega]; exact hp),Bool.and_false]
theorem At {a b:Bool} (h:a = b):Value.bool a = Value.bool b:=by rw [h]
theorem Bi {k:IntKind} {a b:Int} (h:a = b):Value.int k a = Value.int k b:=by rw [h]
def Az (n lo hi:Int):Bool:=decide (lo ≤ n∧n ≤ hi)
def follB (es:List Entry) (fr:Int):Bool:=allI (fun i e=>decide (IntKind.i64.wrap (IntKind.i64.wrap (e.num - 1) - i) = fr)) 0 es
end Go.Eng
namespace Go.Proofs.YtfokljnhllflbaaGreat
open Go Go.Eng Go.RowKit Go.Proofs.Tryz
theorem _root_.Go.Proofs.Tryz.mixed:prog.follows .mixedOrders = true:=by kernel_rfl
theorem Bw:Lone prog 3:=⟨isAgg3,sizeOf3⟩
theorem lo4:Lone prog 4:=⟨isAgg4,sizeOf4⟩
theorem lo5:Lone prog 5:=⟨isAgg5,sizeOf5⟩
theorem lo9:Lone prog 9:=⟨isAgg9,sizeOf9⟩
theorem lo22:Lone prog 22:=⟨isAgg22,sizeOf22⟩
theorem Ct:Whole prog 24 5:=⟨isAgg24,sizeOf24⟩
theorem lo26:Lone prog 26:=⟨isAgg26,sizeOf26⟩
theorem wh29:Whole prog 29 7:=⟨isAgg29,sizeOf29⟩
theorem wh31:Whole prog 31 11:=⟨isAgg31,sizeOf31⟩
theorem wh33:Whole prog 33 17:=⟨isAgg33,sizeOf33⟩
theorem lo43:Lone prog 43:=⟨isAgg43,sizeOf43⟩
theorem lo45:Lone prog 45:=⟨isAgg45,sizeOf45⟩
theorem wh47:Whole prog 47 8:=⟨isAgg47,sizeOf47⟩
theorem lo48:Lone prog 48:=⟨isAgg48,sizeOf48⟩
theorem wh50:Whole prog 50 9:=⟨isAgg50,sizeOf50⟩
theorem lo53:Lone prog 53:=⟨isAgg53,sizeOf53⟩
theorem lo97:Lone prog 97:=⟨isAgg97,sizeOf97⟩
theorem wh123:Whole prog 123 4:=⟨isAgg123,sizeOf123⟩
theorem wh133:Whole prog 133 2:=⟨isAgg133,sizeOf133⟩
theorem lo134:Lone prog 134:=⟨isAgg134,sizeOf134⟩
theorem wh136:Whole prog 136 5:=⟨isAgg136,sizeOf136⟩
theorem lo200:Lone prog 200:=⟨isAgg200,sizeOf200⟩
theorem lo256:Lone prog 256:=⟨isAgg256,sizeOf256⟩
theorem fa24_0 {ρ:Da} {x:Operand} {d:Option Tmp} {ty:TypeId} {ps:String} {af:Array Edge} {gu:Option (Nat × Bool)} {w:World} {a b:Addr} (hx:ev ρ x = .pointer (some a)) (hv:a.add 0 = b):Ex prog ρ ⟨d,.fieldAddr 24 x 0,ty,ps,af,gu⟩ w (.pointer (some b)) w :=
  bD underlying24 rfl sizeOf3 rfl hx hv
theorem fa24_1 {ρ:Da} {x:Operand} {d:Option Tmp} {ty:TypeId} {ps:String} {af:Array Edge} {gu:Option (Nat × Bool)} {w:World} {a b:Addr} (hx:ev ρ x = .pointer (some a)) (hv:a.add 1 = b):Ex prog ρ ⟨d,.fieldAddr 24 x 1,ty,ps,af,gu⟩ w (.pointer (some b)) w :=
  bD underlying24 rfl sizeOf3 rfl hx hv
theorem fa24_2 {ρ:Da} {x:Operand} {d:Option Tmp} {ty:TypeId} {ps:String} {af:Array Edge} {gu:Option (Nat × Bool)} {w:World} {a b:Addr} (hx:ev ρ x = .pointer (some a)) (hv:a.add 2 = b):Ex prog ρ ⟨d,.fieldAddr 24 x 2,ty,ps,af,gu⟩ w (.pointer (some b)) w :=
  bD underlying24 rfl sizeOf3 rfl hx hv
theorem fa24_3 {ρ:Da} {x:Operand} {d:Option Tmp} {ty:TypeId} {ps:String} {af:Array Edge} {gu:Option (Nat × Bool)} {w:World} {a b:Addr} (hx:ev ρ x = .pointer (some a)) (hv:a.add 3 = b):Ex prog ρ ⟨d,.fieldAddr 24 x 3,ty,ps,af,gu⟩ w (.pointer (some b)) w :=
  bD underlying24 rfl sizeOf9 rfl hx hv
theorem Cv {ρ:Da} {x:Operand} {d:Option Tmp} {ty:TypeId} {ps:String} {af:Array Edge} {gu:Option (Nat × Bool)} {w:World} {a b:Addr} (hx:ev ρ x = .pointer (some a)) (hv:a.add 4 = b):Ex prog ρ ⟨d,.fieldAddr 24 x 4,ty,ps,af,gu⟩ w (.pointer (some b)) w :=
  bD underlying24 rfl sizeOf22 rfl hx hv
theorem bd24:Bld prog 24 [(.int .i64 0),(.int .i64 0),(.int .i64 0),(.string (⟨#[]⟩)),(.slice none 0 0)] [(0,1),(1,1),(2,1),(3,1),(4,1)] :=
  ⟨fun w=>⟨_,zeroValue24 w,rfl⟩,_,underlying24,fun w=>by simp [Array.mapM_eq_mapM_toList,sizeOf22,sizeOf3,sizeOf9]⟩
theorem bd29:Bld prog 29 [(.int .i64 0),(.int .i64 0),(.int .i64 0),(.int .i64 0),(.int .i64 0),(.int .i64 0),(.int .i64 0)] [(0,1),(1,1),(2,1),(3,1),(4,1),(5,1),(6,1)] :=
  ⟨fun w=>⟨_,zeroValue29 w,rfl⟩,_,underlying29,fun w=>by simp [Array.mapM_eq_mapM_toList,sizeOf27,sizeOf3]⟩
theorem fa31_0 {ρ:Da} {x:Operand} {d:Option Tmp} {ty:TypeId} {ps:String} {af:Array Edge} {gu:Option (Nat × Bool)} {w:World} {a b:Addr} (hx:ev ρ x = .pointer (some a)) (hv:a.add 0 = b):Ex prog ρ ⟨d,.fieldAddr 31 x 0,ty,ps,af,gu⟩ w (.pointer (some b)) w :=
  bD underlying31 rfl sizeOf3 rfl hx hv
theorem fa31_1 {ρ:Da} {x:Operand} {d:Option Tmp} {ty:TypeId} {ps:String} {af:Array Edge} {gu:Option (Nat × Bool)} {w:World} {a b:Addr} (hx:ev ρ x = .pointer (some a)) (hv:a.add 1 = b):Ex prog ρ ⟨d,.fieldAddr 31 x 1,ty,ps,af,gu⟩ w (.pointer (some b)) w :=
  bD underlying31 rfl sizeOf3 rfl hx hv
theorem fa31_2 {ρ:Da} {x:Operand} {d:Option Tmp} {ty:TypeId} {ps:String} {af:Array Edge} {gu:Option (Nat × Bool)} {w:World} {a b:Addr} (hx:ev ρ x = .pointer (some a)) (hv:a.add 2 = b):Ex prog ρ ⟨d,.fieldAddr 31 x 2,ty,ps,af,gu⟩ w (.pointer (some b)) w :=
  bD underlying31 rfl sizeOf3 rfl hx hv
theorem fa31_3 {ρ:Da} {x:Operand} {d:Option Tmp} {ty:TypeId} {ps:String} {af:Array Edge} {gu:Option (Nat × Bool)} {w:World} {a b:Addr} (hx:ev ρ x = .pointer (some a)) (hv:a.add 3 = b):Ex prog ρ ⟨d,.fieldAddr 31 x 3,ty,ps,af,gu⟩ w (.pointer (some b)) w :=
  bD underlying31 rfl sizeOf3 rfl hx hv
theorem fa31_4 {ρ:Da} {x:Operand} {d:Option Tmp} {ty:TypeId} {ps:String} {af:Array Edge} {gu:Option (Nat × Bool)} {w:World} {a b:Addr} (hx:ev ρ x = .pointer (some a)) (hv:a.add 4 = b):Ex prog ρ ⟨d,.fieldAddr 31 x 4,ty,ps,af,gu⟩ w (.pointer (some b)) w :=
  bD underlying31 rfl sizeOf29 rfl hx hv
theorem bd31:Bld prog 31 [(.int .i64 0),(.int .i64 0),(.int .i64 0),(.int .i64 0),(.int .i64 0),(.int .i64 0),(.int .i64 0),(.int .i64 0),(.int .i64 0),(.int .i64 0),(.int .i64 0)] [(0,1),(1,1),(2,1),(3,1),(4,7)] :=
  ⟨fun w=>⟨_,zeroValue31 w,rfl⟩,_,underlying31,fun w=>by simp [Array.mapM_eq_mapM_toList,sizeOf29,sizeOf3]⟩
theorem fa33_0 {ρ:Da} {x:Operand} {d:Option Tmp} {ty:TypeId} {ps:String} {af:Array Edge} {gu:Option (Nat × Bool)} {w:World} {a b:Addr} (hx:ev ρ x = .pointer (some a)) (hv:a.add 0 = b):Ex prog ρ ⟨d,.fieldAddr 33 x 0,ty,ps,af,gu⟩ w (.pointer (some b)) w :=
  bD underlying33 rfl sizeOf26 rfl hx hv
theorem fa33_1 {ρ:Da} {x:Operand} {d:Option Tmp} {ty:TypeId} {ps:String} {af:Array Edge} {gu:Option (Nat × Bool)} {w:World} {a b:Addr} (hx:ev ρ x = .pointer (some a)) (hv:a.add 1 = b):Ex prog ρ ⟨d,.fieldAddr 33 x 1,ty,ps,af,gu⟩ w (.pointer (some b)) w :=
  bD underlying33 rfl sizeOf3 rfl hx hv
theorem fa33_2 {ρ:Da} {x:Operand} {d:Option Tmp} {ty:TypeId} {ps:String} {af:Array Edge} {gu:Option (Nat × Bool)} {w:World} {a b:Addr} (hx:ev ρ x = .pointer (some a)) (hv:a.add 2 = b):Ex prog ρ ⟨d,.fieldAddr 33 x 2,ty,ps,af,gu⟩ w (.pointer (some b)) w :=
  bD underlying33 rfl sizeOf3 rfl hx hv
theorem fa33_3 {ρ:Da} {x:Operand} {d:Option Tmp} {ty:TypeId} {ps:String} {af:Array Edge} {gu:Option (Nat × Bool)} {w:World} {a b:Addr} (hx:ev ρ x = .pointer (some a)) (hv:a.add 3 = b):Ex prog ρ ⟨d,.fieldAddr 33 x 3,ty,ps,af,gu⟩ w (.pointer (some b)) w :=
  bD underlying33 rfl sizeOf3 rfl hx hv
theorem fa33_4 {ρ:Da} {x:Operand} {d:Option Tmp} {ty:TypeId} {ps:String} {af:Array Edge} {gu:Option (Nat × Bool)} {w:World} {a b:Addr} (hx:ev ρ x = .pointer (some a)) (hv:a.add 4 = b):Ex prog ρ ⟨d,.fieldAddr 33 x 4,ty,ps,af,gu⟩ w (.pointer (some b)) w :=
  bD underlying33 rfl sizeOf9 rfl hx hv
theorem fa33_5 {ρ:Da} {x:Operand} {d:Option Tmp} {ty:TypeId} {ps:String} {af:Array Edge} {gu:Option (Nat × Bool)} {w:World} {a b:Addr} (hx:ev ρ x = .pointer (some a)) (hv:a.add 5 = b):Ex prog ρ ⟨d,.fieldAddr 33 x 5,ty,ps,af,gu⟩ w (.pointer (some b)) w :=
  bD underlying33 rfl sizeOf31 rfl hx hv
theorem fa33_6 {ρ:Da} {x:Operand} {d:Option Tmp} {ty:TypeId} {ps:String} {af:Array Edge} {gu:Option (Nat × Bool)} {w:World} {a b:Addr} (hx:ev ρ x = .pointer (some a)) (hv:a.add 16 = b):Ex prog ρ ⟨d,.fieldAddr 33 x 6,ty,ps,af,gu⟩ w (.pointer (some b)) w :=
  bD underlying33 rfl sizeOf22 rfl hx hv
theorem bd33:Bld prog 33 [(.int .i64 0),(.int .i64 0),(.int .i64 0),(.int .i64 0),(.string (⟨#[]⟩)),(.int .i64 0),(.int .i64 0),(.int .i64 0),(.int .i64 0),(.int .i64 0),(.int .i64 0),(.int .i64 0),(.int .i64 0),(.int .i64 0),(.int .i64 0),(.int .i64 0),(.slice none 0 0)] [(0,1),(1,1),(2,1),(3,1),(4,1),(5,11),(16,1)] :=
  ⟨fun w=>⟨_,zeroValue33 w,rfl⟩,_,underlying33,fun w=>by simp [Array.mapM_eq_mapM_toList,sizeOf22,sizeOf26,sizeOf3,sizeOf31,sizeOf9]⟩
theorem fa47_0 {ρ:Da} {x:Operand} {d:Option Tmp} {ty:TypeId} {ps:String} {af:Array Edge} {gu:Option (Nat × Bool)} {w:World} {a b:Addr} (hx:ev ρ x = .pointer (some a)) (hv:a.add 0 = b):Ex prog ρ ⟨d,.fieldAddr 47 x 0,ty,ps,af,gu⟩ w (.pointer (some b)) w :=
  bD underlying47 rfl sizeOf3 rfl hx hv
theorem fa47_1 {ρ:Da} {x:Operand} {d:Option Tmp} {ty:TypeId} {ps:String} {af:Array Edge} {gu:Option (Nat × Bool)} {w:World} {a b:Addr} (hx:ev ρ x = .pointer (some a)) (hv:a.add 1 = b):Ex prog ρ ⟨d,.fieldAddr 47 x 1,ty,ps,af,gu⟩ w (.pointer (some b)) w :=
  bD underlying47 rfl sizeOf43 rfl hx hv
theorem fa47_2 {ρ:Da} {x:Operand} {d:Option Tmp} {ty:TypeId} {ps:String} {af:Array Edge} {gu:Option (Nat × Bool)} {w:World} {a b:Addr} (hx:ev ρ x = .pointer (some a)) (hv:a.add 2 = b):Ex prog ρ ⟨d,.fieldAddr 47 x 2,ty,ps,af,gu⟩ w (.pointer (some b)) w :=
  bD underlying47 rfl sizeOf3 rfl hx hv
theorem fa47_3 {ρ:Da} {x:Operand} {d:Option Tmp} {ty:TypeId} {ps:String} {af:Array Edge} {gu:Option (Nat × Bool)} {w:World} {a b:Addr} (hx:ev ρ x = .pointer (some a)) (hv:a.add 3 = b):Ex prog ρ ⟨d,.fieldAddr 47 x 3,ty,ps,af,gu⟩ w (.pointer (some b)) w :=
  bD underlying47 rfl sizeOf44 rfl hx hv
theorem fa47_4 {ρ:Da} {x:Operand} {d:Option Tmp} {ty:TypeId} {ps:String} {af:Array Edge} {gu:Option (Nat × Bool)} {w:World} {a b:Addr} (hx:ev ρ x = .pointer (some a)) (hv:a.add 7 = b):Ex prog ρ ⟨d,.fieldAddr 47 x 4,ty,ps,af,gu⟩ w (.pointer (some b)) w :=
  bD underlying47 rfl sizeOf45 rfl hx hv
theorem bd47:Bld prog 47 [(.int .i64 0),(.slice none 0 0),(.int .i64 0),(.int .i64 0),(.int .i64 0),(.int .i64 0),(.int .i64 0),(.slice none 0 0)] [(0,1),(1,1),(2,1),(3,4),(7,1)] :=
  ⟨fun w=>⟨_,zeroValue47 w,rfl⟩,_,underlying47,fun w=>by simp [Array.mapM_eq_mapM_toList,sizeOf3,sizeOf43,sizeOf44,sizeOf45]⟩
theorem fa50_0 {ρ:Da} {x:Operand} {d:Option Tmp} {ty:TypeId} {ps:String} {af:Array Edge} {gu:Option (Nat × Bool)} {w:World} {a b:Addr} (hx:ev ρ x = .pointer (some a)) (hv:a.add 0 = b):Ex prog ρ ⟨d,.fieldAddr 50 x 0,ty,ps,af,gu⟩ w (.pointer (some b)) w :=
  bD underlying50 rfl sizeOf47 rfl hx hv
theorem fa50_1 {ρ:Da} {x:Operand} {d:Option Tmp} {ty:TypeId} {ps:String} {af:Array Edge} {gu:Option (Nat × Bool)} {w:World} {a b:Addr} (hx:ev ρ x = .pointer (some a)) (hv:a.add 8 = b):Ex prog ρ ⟨d,.fieldAddr 50 x 1,ty,ps,af,gu⟩ w (.pointer (some b)) w :=
  bD underlying50 rfl sizeOf48 rfl hx hv
theorem bd50:Bld prog 50 [(.int .i64 0),(.slice none 0 0),(.int .i64 0),(.int .i64 0),(.int .i64 0),(.int .i64 0),(.int .i64 0),(.slice none 0 0),(.slice none 0 0)] [(0,8),(8,1)] :=
  ⟨fun w=>⟨_,zeroValue50 w,rfl⟩,_,underlying50,fun w=>by simp [Array.mapM_eq_mapM_toList,sizeOf47,sizeOf48]⟩
theorem fa55_0 {ρ:Da} {x:Operand} {d:Option Tmp} {ty:TypeId} {ps:String} {af:Array Edge} {gu:Option (Nat × Bool)} {w:World} {a b:Addr} (hx:ev ρ x = .pointer (some a)) (hv:a.add 0 = b):Ex prog ρ ⟨d,.fieldAddr 55 x 0,ty,ps,af,gu⟩ w (.pointer (some b)) w :=
  bD underlying55 rfl sizeOf53 rfl hx hv
theorem fa55_1 {ρ:Da} {x:Operand} {d:Option Tmp} {ty:TypeId} {ps:String} {af:Array Edge} {gu:Option (Nat × Bool)} {w:World} {a b:Addr} (hx:ev ρ x = .pointer (some a)) (hv:a.add 1 = b):Ex prog ρ ⟨d,.fieldAddr 55 x 1,ty,ps,af,gu⟩ w (.pointer (some b)) w :=
  bD underlying55 rfl sizeOf3 rfl hx hv
theorem Dj {ρ:Da} {x:Operand} {d:Option Tmp} {ty:TypeId} {ps:String} {af:Array Edge} {gu:Option (Nat × Bool)} {w:World} {a b:Addr} (hx:ev ρ x = .pointer (some a)) (hv:a.add 0 = b):Ex prog ρ ⟨d,.fieldAddr 123 x 0,ty,ps,af,gu⟩ w (.pointer (some b)) w :=
  bD underlying123 rfl sizeOf3 rfl hx hv
theorem fa123_1 {ρ:Da} {x:Operand} {d:Option Tmp} {ty:TypeId} {ps:String} {af:Array Edge} {gu:Option (Nat × Bool)} {w:World} {a b:Addr} (hx:ev ρ x = .pointer (some a)) (hv:a.add 1 = b):Ex prog ρ ⟨d,.fieldAddr 123 x 1,ty,ps,af,gu⟩ w (.pointer (some b)) w :=
  bD underlying123 rfl sizeOf3 rfl hx hv
theorem fa123_2 {ρ:Da} {x:Operand} {d:Option Tmp} {ty:TypeId} {ps:String} {af:Array Edge} {gu:Option (Nat × Bool)} {w:World} {a b:Addr} (hx:ev ρ x = .pointer (some a)) (hv:a.add 2 = b):Ex prog ρ ⟨d,.fieldAddr 123 x 2,ty,ps,af,gu⟩ w (.pointer (some b)) w :=
  bD underlying123 rfl sizeOf55 rfl hx hv
theorem bd123:Bld prog 123 [(.int .i64 0),(.int .i64 0),(.int .i64 0),(.int .i64 0)] [(0,1),(1,1),(2,2)] :=
  ⟨fun w=>⟨_,zeroValue123 w,rfl⟩,_,underlying123,fun w=>by simp [Array.mapM_eq_mapM_toList,sizeOf3,sizeOf55]⟩
theorem Cs {ρ:Da} {x:Operand} {d:Option Tmp} {ty:TypeId} {ps:String} {af:Array Edge} {gu:Option (Nat × Bool)} {w:World} {a b:Addr} (hx:ev ρ x = .pointer (some a)) (hv:a.add 0 = b):Ex prog ρ ⟨d,.fieldAddr 133 x 0,ty,ps,af,gu⟩ w (.pointer (some b)) w :=
  bD underlying133 rfl sizeOf3 rfl hx hv
theorem Cg {ρ:Da} {x:Operand} {d:Option Tmp} {ty:TypeId} {ps:String} {af:Array Edge} {gu:Option (Nat × Bool)} {w:World} {a b:Addr} (hx:ev ρ x = .pointer (some a)) (hv:a.add 1 = b):Ex prog ρ ⟨d,.fieldAddr 133 x 1,ty,ps,af,gu⟩ w (.pointer (some b)) w :=
  bD underlying133 rfl sizeOf3 rfl hx hv
theorem bd133:Bld prog 133 [(.int .i64 0),(.int .i64 0)] [(0,1),(1,1)] :=
  ⟨fun w=>⟨_,zeroValue133 w,rfl⟩,_,underlying133,fun w=>by simp [Array.mapM_eq_mapM_toList,sizeOf3]⟩
theorem fa136_0 {ρ:Da} {x:Operand} {d:Option Tmp} {ty:TypeId} {ps:String} {af:Array Edge} {gu:Option (Nat × Bool)} {w:World} {a b:Addr} (hx:ev ρ x = .pointer (some a)) (hv:a.add 0 = b):Ex prog ρ ⟨d,.fieldAddr 136 x 0,ty,ps,af,gu⟩ w (.pointer (some b)) w :=
  bD underlying136 rfl sizeOf3 rfl hx hv
theorem fa136_1 {ρ:Da} {x:Operand} {d:Option Tmp} {ty:TypeId} {ps:String} {af:Array Edge} {gu:Option (Nat × Bool)} {w:World} {a b:Addr} (hx:ev ρ x = .pointer (some a)) (hv:a.add 1 = b):Ex prog ρ ⟨d,.fieldAddr 136 x 1,ty,ps,af,gu⟩ w (.pointer (some b)) w :=
  bD underlying136 rfl sizeOf133 rfl hx hv
theorem fa136_2 {ρ:Da} {x:Operand} {d:Option Tmp} {ty:TypeId} {ps:String} {af:Array Edge} {gu:Option (Nat × Bool)} {w:World} {a b:Addr} (hx:ev ρ x = .pointer (some a)) (hv:a.add 3 = b):Ex prog ρ ⟨d,.fieldAddr 136 x 2,ty,ps,af,gu⟩ w (.pointer (some b)) w :=
  bD underlying136 rfl sizeOf134 rfl hx hv
theorem fa136_3 {ρ:Da} {x:Operand} {d:Option Tmp} {ty:TypeId} {ps:String} {af:Array Edge} {gu:Option (Nat × Bool)} {w:World} {a b:Addr} (hx:ev ρ x = .pointer (some a)) (hv:a.add 4 = b):Ex prog ρ ⟨d,.fieldAddr 136 x 3,ty,ps,af,gu⟩ w (.pointer (some b)) w :=
  bD underlying136 rfl sizeOf134 rfl hx hv
theorem bd136:Bld prog 136 [(.int .i64 0),(.int .i64 0),(.int .i64 0),(.slice none 0 0),(.slice none 0 0)] [(0,1),(1,2),(3,1),(4,1)] :=
  ⟨fun w=>⟨_,zeroValue136 w,rfl⟩,_,underlying136,fun w=>by simp [Array.mapM_eq_mapM_toList,sizeOf133,sizeOf134,sizeOf3]⟩
theorem Co {ρ:Da} {x:Operand} {d:Option Tmp} {ty:TypeId} {ps:String} {af:Array Edge} {gu:Option (Nat × Bool)} {w:World} {a b:Addr} (hx:ev ρ x = .pointer (some a)) (hv:a.add 0 = b):Ex prog ρ ⟨d,.fieldAddr 141 x 0,ty,ps,af,gu⟩ w (.pointer (some b)) w :=
  bD underlying141 rfl sizeOf24 rfl hx hv
theorem bd141:Bld prog 141 [(.int .i64 0),(.int .i64 0),(.int .i64 0),(.string (⟨#[]⟩)),(.slice none 0 0)] [(0,5)] :=
  ⟨fun w=>⟨_,zeroValue141 w,rfl⟩,_,underlying141,fun w=>by simp [Array.mapM_eq_mapM_toList,sizeOf24]⟩
theorem fa166_0 {ρ:Da} {x:Operand} {d:Option Tmp} {ty:TypeId} {ps:String} {af:Array Edge} {gu:Option (Nat × Bool)} {w:World} {a b:Addr} (hx:ev ρ x = .pointer (some a)) (hv:a.add 0 = b):Ex prog ρ ⟨d,.fieldAddr 166 x 0,ty,ps,af,gu⟩ w (.pointer (some b)) w :=
  bD underlying166 rfl sizeOf97 rfl hx hv
theorem bd166:Bld prog 166 [(.slice none 0 0)] [(0,1)] :=
  ⟨fun w=>⟨_,zeroValue166 w,rfl⟩,_,underlying166,fun w=>by simp [Array.mapM_eq_mapM_toList,sizeOf97]⟩
theorem fa202_0 {ρ:Da} {x:Operand} {d:Option Tmp} {ty:TypeId} {ps:String} {af:Array Edge} {gu:Option (Nat × Bool)} {w:World} {a b:Addr} (hx:ev ρ x = .pointer (some a)) (hv:a.add 0 = b):Ex prog ρ ⟨d,.fieldAddr 202 x 0,ty,ps,af,gu⟩ w (.pointer (some b)) w :=
  bD underlying202 rfl sizeOf200 rfl hx hv
theorem bd202:Bld prog 202 [(.pointer none)] [(0,1)] :=
  ⟨fun w=>⟨_,zeroValue202 w,rfl⟩,_,underlying202,fun w=>by simp [Array.mapM_eq_mapM_toList,sizeOf200]⟩
theorem fa213_0 {ρ:Da} {x:Operand} {d:Option Tmp} {ty:TypeId} {ps:String} {af:Array Edge} {gu:Option (Nat × Bool)} {w:World} {a b:Addr} (hx:ev ρ x = .pointer (some a)) (hv:a.add 0 = b):Ex prog ρ ⟨d,.fieldAddr 213 x 0,ty,ps,af,gu⟩ w (.pointer (some b)) w :=
  bD underlying213 rfl sizeOf97 rfl hx hv
theorem fa213_1 {ρ:Da} {x:Operand} {d:Option Tmp} {ty:TypeId} {ps:String} {af:Array Edge} {gu:Option (Nat × Bool)} {w:World} {a b:Addr} (hx:ev ρ x = .pointer (some a)) (hv:a.add 1 = b):Ex prog ρ ⟨d,.fieldAddr 213 x 1,ty,ps,af,gu⟩ w (.pointer (some b)) w :=
  bD underlying213 rfl sizeOf4 rfl hx hv
theorem bd213:Bld prog 213 [(.slice none 0 0),(.bool false)] [(0,1),(1,1)] :=
  ⟨fun w=>⟨_,zeroValue213 w,rfl⟩,_,underlying213,fun w=>by simp [Array.mapM_eq_mapM_toList,sizeOf4,sizeOf97]⟩
theorem bd252:Bld prog 252 [] [] :=
  ⟨fun w=>⟨_,zeroValue252 w,rfl⟩,_,underlying252,fun w=>by simp [Array.mapM_eq_mapM_toList]⟩
theorem inf31:(prog.info? 31).map (fun i=>(i.zero,i.size,i.bytes)) = some (some (.agg #[(.int .i64 0),(.int .i64 0),(.int .i64 0),(.int .i64 0),(.int .i64 0),(.int .i64 0),(.int .i64 0),(.int .i64 0),(.int .i64 0),(.int .i64 0),(.int .i64 0)]),11,88):=by kernel_rfl
theorem el22:Elt prog 22 31 11 88:=⟨underlying22,by
  obtain ⟨i,h,h1,h2,h3⟩:=info_parts inf31
  exact ⟨i,_,h,h1,h2,h3,rfl⟩⟩
theorem ze22 : ∀ w:World, ∃ zv:Value,(zeroValue 31).run prog w = .ok zv w∧zv.cells = [(.int .i64 0),(.int .i64 0),(.int .i64 0),(.int .i64 0),(.int .i64 0),(.int .i64 0),(.int .i64 0),(.int .i64 0),(.int .i64 0),(.int .i64 0),(.int .i64 0)].toArray:=fun w=>⟨_,zeroValue31 w,rfl⟩
theorem inf136:(prog.info? 136).map (fun i=>(i.zero,i.size,i.bytes)) = some (some (.agg #[(.int .i64 0),(.int .i64 0),(.int .i64 0),(.slice none 0 0),(.slice none 0 0)]),5,72):=by kernel_rfl
theorem el43:Elt prog 43 136 5 72:=⟨underlying43,by
  obtain ⟨i,h,h1,h2,h3⟩:=info_parts inf136
  exact ⟨i,_,h,h1,h2,h3,rfl⟩⟩
theorem ze43 : ∀ w:World, ∃ zv:Value,(zeroValue 136).run prog w = .ok zv w∧zv.cells = [(.int .i64 0),(.int .i64 0),(.int .i64 0),(.slice none 0 0),(.slice none 0 0)].toArray:=fun w=>⟨_,zeroValue136 w,rfl⟩
theorem inf133:(prog.info? 133).map (fun i=>(i.zero,i.size,i.bytes)) = some (some (.agg #[(.int .i64 0),(.int .i64 0)]),2,16):=by kernel_rfl
theorem el45:Elt prog 45 133 2 16:=⟨underlying45,by
  obtain ⟨i,h,h1,h2,h3⟩:=info_parts inf133
  exact ⟨i,_,h,h1,h2,h3,rfl⟩⟩
theorem ze45 : ∀ w:World, ∃ zv:Value,(zeroValue 133).run prog w = .ok zv w∧zv.cells = [(.int .i64 0),(.int .i64 0)].toArray:=fun w=>⟨_,zeroValue133 w,rfl⟩
theorem inf123:(prog.info? 123).map (fun i=>(i.zero,i.size,i.bytes)) = some (some (.agg #[(.int .i64 0),(.int .i64 0),(.int .i64 0),(.int .i64 0)]),4,32):=by kernel_rfl
theorem el48:Elt prog 48 123 4 32:=⟨underlying48,by
  obtain ⟨i,h,h1,h2,h3⟩:=info_parts inf123
  exact ⟨i,_,h,h1,h2,h3,rfl⟩⟩
theorem ze48 : ∀ w:World, ∃ zv:Value,(zeroValue 123).run prog w = .ok zv w∧zv.cells = [(.int .i64 0),(.int .i64 0),(.int .i64 0),(.int .i64 0)].toArray:=fun w=>⟨_,zeroValue123 w,rfl⟩
theorem inf5:(prog.info? 5).map (fun i=>(i.zero,i.size,i.bytes)) = some (some (.int .u8 0),1,1):=by kernel_rfl
theorem el97:Elt prog 97 5 1 1:=⟨underlying97,by
  obtain ⟨i,h,h1,h2,h3⟩:=info_parts inf5
  exact ⟨i,_,h,h1,h2,h3,rfl⟩⟩
theorem ze97 : ∀ w:World, ∃ zv:Value,(zeroValue 5).run prog w = .ok zv w∧zv.cells = [(.int .u8 0)].toArray:=fun w=>⟨_,zeroValue5 w,rfl⟩
theorem inf3:(prog.info? 3).map (fun i=>(i.zero,i.size,i.bytes)) = some (some (.int .i64 0),1,8):=by kernel_rfl
theorem el134:Elt prog 134 3 1 8:=⟨underlying134,by
  obtain ⟨i,h,h1,h2,h3⟩:=info_parts inf3
  exact ⟨i,_,h,h1,h2,h3,rfl⟩⟩
theorem ze134 : ∀ w:World, ∃ zv:Value,(zeroValue 3).run prog w = .ok zv w∧zv.cells = [(.int .i64 0)].toArray:=fun w=>⟨_,zeroValue3 w,rfl⟩
end Go.Proofs.YtfokljnhllflbaaGreat
namespace Go.Eng
open Go Go.RowKit
def bc (b:UInt8):Value:=.int .u8 (b.toNat:Int)
def Df (bs:List UInt8):List (List Value):=bs.map fun b=>[bc b]
def ics (l:List Int):List (List Value):=l.map fun n=>[.int .i64 n]
theorem Aq (bs:List UInt8):(Df bs).length = bs.length:=by simp [Df]
theorem Au (l:List Int):(ics l).length = l.length:=by simp [ics]
theorem bcs_get {bs:List UInt8} {k:Nat} {b:UInt8} (h:bs[k]? = some b):(Df bs)[k]? = some [bc b]:=by simp [Df,h]
theorem ics_get {l:List Int} {k:Nat} {n:Int} (h:l[k]? = some n):(ics l)[k]? = some [.int .i64 n]:=by simp [ics,h]
theorem bcs_drop (bs:List UInt8) (n:Nat):(Df bs).drop n = Df (bs.drop n):=by simp [Df]
def be (l:List UInt8):Nat:=l.foldl (fun u b=>u * 256 + b.toNat) 0
theorem be_snoc (l:List UInt8) (b:UInt8):be (l ++ [b]) = be l * 256 + b.toNat:=by simp [be]
theorem be_take {l:List UInt8} {k:Nat} {b:UInt8} (h:l[k]? = some b):be (l.take (k + 1)) = be (l.take k) * 256 + b.toNat:=by
  rw [← be_snoc]
  congr 1
  obtain ⟨h1,rfl⟩:=List.getElem?_eq_some_iff.1 h
  exact List.take_succ_eq_append_getElem h1
theorem foldl_be_lt : ∀ (l:List UInt8) (u k:Nat),u < 256 ^ k → l.foldl (fun u b=>u * 256 + b.toNat) u < 256 ^ (k + l.length)
  | [],u,k,h=>by simpa using h
  | b :: l,u,k,h=>by
    simp only [List.foldl_cons,List.length_cons]
    have hb:=b.toNat_lt
    have:=foldl_be_lt l (u * 256 + b.toNat) (k + 1) (by
      rw [Nat.pow_succ]
      omega)
    rwa [show k + (l.length + 1) = k + 1 + l.length by omega]
theorem be_lt (l:List UInt8):be l < 256 ^ l.length:=by have:=foldl_be_lt l 0 0 (by simp); rwa [Nat.zero_add] at this
theorem be_lt7 {l:List UInt8} (h:l.length ≤ 7):be l < 72057594037927936 :=
  Nat.lt_of_lt_of_le (be_lt l) (by
    have:256 ^ l.length ≤ 256 ^ 7:=Nat.pow_le_pow_right (by omega) h
    simpa using this)
theorem shl8 (u:Nat) (h:u < 72057594037927936):IntKind.u64.wrap ((u:Int) * 2 ^ (min (8:Int).toNat (IntKind.bits .u64))) = ((u * 256:Nat):Int):=by
  have e:(2:Int) ^ (min (8:Int).toNat (IntKind.bits .u64)) = 256:=by decide
  rw [e,IntKind.wrap_u64]
  omega
theorem or8 (u:Nat) (b:UInt8) (h:u < 72057594037927936):ior .u64 ((u * 256:Nat):Int) (b.toNat:Int) = ((u * 256 + b.toNat:Nat):Int):=by
  have hb:=b.toNat_lt
  have e1:(BitVec.ofInt (IntKind.bits .u64) ((u * 256:Nat):Int)).toNat = u * 256:=by
    show (BitVec.ofInt 64 ((u * 256:Nat):Int)).toNat = _
    rw [BitVec.ofInt_natCast,BitVec.toNat_ofNat]; exact Nat.mod_eq_of_lt (by omega)
  have e2:(BitVec.ofInt (IntKind.bits .u64) (b.toNat:Int)).toNat = b.toNat:=by
    show (BitVec.ofInt 64 (b.toNat:Int)).toNat = _
    rw [BitVec.ofInt_natCast,BitVec.toNat_ofNat]; exact Nat.mod_eq_of_lt (by omega)
  unfold ior
  rw [BitVec.toNat_or,e1,e2]
  have e3:u * 256 ||| b.toNat = u * 256 + b.toNat:=by
    have:=Nat.shiftLeft_add_eq_or_of_lt (b:=b.toNat) (i:=8) (by omega) u
    rw [Nat.shiftLeft_eq] at this
    exact this.symm
  rw [e3,IntKind.wrap_u64]
  omega
def Af (o:Int):Int:=if o < 0 ∨ 8 < o then 0 else 2 ^ o.toNat
theorem wordsI_cases {o:Int} (h0:0 ≤ o) (h8:o ≤ 8):o = 0 ∨ o = 1 ∨ o = 2 ∨ o = 3 ∨ o = 4 ∨ o = 5 ∨ o = 6 ∨ o = 7 ∨ o = 8:=by omega
theorem shl_words {o:Int} (h0:0 ≤ o) (h8:o ≤ 8):IntKind.i64.wrap (1 * 2 ^ (min o.toNat (IntKind.bits .i64))) = Af o:=by
  rcases wordsI_cases h0 h8 with rfl | rfl | rfl | rfl | rfl | rfl | rfl | rfl | rfl <;> decide
theorem Bc (o:Int):0 ≤ Af o∧Af o ≤ 256:=by
  unfold Af
  split
  · omega
  · rcases wordsI_cases (o:=o) (by omega) (by omega) with rfl | rfl | rfl | rfl | rfl | rfl | rfl | rfl | rfl <;> decide
theorem Bt {o:Int} (h0:0 ≤ o) (h8:o ≤ 8):1 ≤ Af o:=by
  rcases wordsI_cases h0 h8 with rfl | rfl | rfl | rfl | rfl | rfl | rfl | rfl | rfl <;> decide
def needN (n:Nat):Nat:=if n < 1 then 0 else if n < 2 then 1 else if n < 4 then 2 else if n < 8 then 3 else if n < 16 then 4 else if n < 32 then 5 else 6
def By (words links:Int):Int:=if 0 ≤ words∧words ≤ 32∧0 ≤ links∧links ≤ 16 then (needN (words + links).toNat:Int) else -1
theorem needN_of {n k:Nat} (hn:n ≤ 48) (hk:k ≤ 6) (h1 : ∀ j,j < k → Af (j:Int) ≤ (n:Int)) (h2:(n:Int) < Af (k:Int)):needN n = k:=by
  have hc:k = 0 ∨ k = 1 ∨ k = 2 ∨ k = 3 ∨ k = 4 ∨ k = 5 ∨ k = 6:=by omega
  have e:Af 0 = 1∧Af 1 = 2∧Af 2 = 4∧Af 3 = 8∧Af 4 = 16∧Af 5 = 32∧Af 6 = 64:=by decide
  obtain ⟨e0,e1,e2,e3,e4,e5,e6⟩:=e
  unfold needN
  rcases hc with rfl | rfl | rfl | rfl | rfl | rfl | rfl
  · have:n < 1:=by have:=h2; rw [show ((0:Nat):Int) = 0 from rfl,e0] at this; omega
    simp [this]
  · have a:=h1 0 (by omega); rw [show ((0:Nat):Int) = 0 from rfl,e0] at a
    rw [show ((1:Nat):Int) = 1 from rfl,e1] at h2
    rw [if_neg (by omega),if_pos (by omega)]
  · have a:=h1 1 (by omega); rw [show ((1:Nat):Int) = 1 from rfl,e1] at a
    rw [show ((2:Nat):Int) = 2 from rfl,e2] at h2
    rw [if_neg (by omega),if_neg (by omega),if_pos (by omega)]
  · have a:=h1 2 (by omega); rw [show ((2:Nat):Int) = 2 from rfl,e2] at a
    rw [show ((3:Nat):Int) = 3 from rfl,e3] at h2
    rw [if_neg (by omega),if_neg (by omega),if_neg (by omega),if_pos (by omega)]
  · have a:=h1 3 (by omega); rw [show ((3:Nat):Int) = 3 from rfl,e3] at a
    rw [show ((4:Nat):Int) = 4 from rfl,e4] at h2
    rw [if_neg (by omega),if_neg (by omega),if_neg (by omega),if_neg (by omega),if_pos (by omega)]
  · have a:=h1 4 (by omega); rw [show ((4:Nat):Int) = 4 from rfl,e4] at a
    rw [show ((5:Nat):Int) = 5 from rfl,e5] at h2
    rw [if_neg (by omega),if_neg (by omega),if_neg (by omega),if_neg (by omega),if_neg (by omega),if_pos (by omega)]
  · have a:=h1 5 (by omega); rw [show ((5:Nat):Int) = 5 from rfl,e5] at a
    rw [if_neg (by omega),if_neg (by omega),if_neg (by omega),if_neg (by omega),if_neg (by omega),if_neg (by omega)]
theorem Bh {n lo hi:Int} (h:Az n lo hi = true):lo ≤ n∧n ≤ hi:=by simpa [Az] using h
theorem withinB_f {n lo hi:Int} (h:Az n lo hi = false):n < lo ∨ hi < n:=by
  simp [Az] at h; omega
theorem need_round {k:Nat} {n:Int} (hk:k ≤ 6) (hj : ∀ j:Nat,j < k → Af (j:Int) ≤ n) (h:Af (k:Int) ≤ n) (hn:n ≤ 48):k + 1 ≤ 6 ∧ ∀ j:Nat,j < k + 1 → Af (j:Int) ≤ n:=by
  constructor
  · rcases Nat.lt_or_ge k 6 with h1 | h1
    · omega
    · have e6:k = 6:=by omega
      subst e6
      have:Af ((6:Nat):Int) = 64:=by decide
      omega
  · intro j hjk
    rcases Nat.lt_or_ge j k with h1 | h1
    · exact hj j h1
    · have:j = k:=by omega
      subst this; exact h
theorem needI_bd (a b:Int) : -1 ≤ By a b∧By a b ≤ 6:=by
  unfold By needN
  repeat' split
  all_goals omega
def mayB (o:Int) (b:Blk):Bool :=
  decide (0 ≤ b.ord) && decide (b.ord ≤ o) && decide (0 ≤ b.at_) && decide (b.at_ ≤ Af o - Af b.ord) && decide (iand .i64 b.at_ (Af b.ord - 1) = 0)
def twinOf (b:Blk):Blk:=⟨ixor .i64 b.at_ (Af b.ord),b.ord⟩
theorem mayB_bd {o:Int} {b:Blk} (h:mayB o b = true):0 ≤ b.ord∧b.ord ≤ o∧0 ≤ b.at_∧b.at_ ≤ Af o - Af b.ord:=by
  unfold mayB at h
  simp only [Bool.and_eq_true,decide_eq_true_eq] at h
  exact ⟨h.1.1.1.1,h.1.1.1.2,h.1.1.2,h.1.2⟩
def buddyGo (o:Int):List Blk → Int → Blk → Bool
  | [],_,_=>true
  | b :: l,e,last=>mayB o b && !decide (b.at_ < e) && !(decide (b.ord < o) && decide (last = twinOf b) && decide (0 ≤ last.at_)) && buddyGo o l (b.at_ + Af b.ord) b
theorem buddyGo_yes {o e:Int} {b lst:Blk} {l:List Blk} (h1:mayB o b = true) (h2 : ¬ b.at_ < e) (h3:b.ord < o → lst = twinOf b → ¬ 0 ≤ lst.at_):buddyGo o (b :: l) e lst = buddyGo o l (b.at_ + Af b.ord) b:=by
  have h4:(decide (b.ord < o) && decide (lst = twinOf b) && decide (0 ≤ lst.at_)) = false:=by
    by_cases a:b.ord < o
    · by_cases c:lst = twinOf b
      · simp [h3 a c]
      · simp [c]
    · simp [a]
  conv=>lhs; unfold buddyGo
  rw [h1,h4,decide_eq_false h2]
  simp
theorem buddyGo_no {o e:Int} {b lst:Blk} {l:List Blk} (h:mayB o b = false ∨ b.at_ < e ∨ (b.ord < o∧lst = twinOf b∧0 ≤ lst.at_)):buddyGo o (b :: l) e lst = false:=by
  unfold buddyGo
  rcases h with h | h | ⟨h,h2,h3⟩
  · simp [h]
  · simp [h]
  · rw [decide_eq_true h,decide_eq_true h2,decide_eq_true h3]; simp
def buddyB (o:Int) (l:List Blk):Bool:=Az o 3 8 && buddyGo o l 0 ⟨-1,0⟩
theorem blk_eq {a b:Blk} : (a = b) ↔ (a.at_ = b.at_∧a.ord = b.ord):=by cases a; cases b; simp
theorem Bp {α:Type} {l:List α} {k:Nat} {x:α} (h:l[k]? = some x):l.drop k = x :: l.drop (k + 1):=by
  obtain ⟨h1,rfl⟩:=List.getElem?_eq_some_iff.1 h
  exact List.drop_eq_getElem_cons h1
def Cq (l:List Blk):List (List Value):=l.map Blk.cells
theorem Ca {l:List Blk} {k:Nat} {b:Blk} (h:l[k]? = some b):(Cq l)[k]? = some b.cells:=by simp [Cq,h]
theorem Am (l:List Blk):(Cq l).length = l.length:=by simp [Cq]
def rdN (bs:List UInt8):Option (Int × List UInt8) :=
  if bs.length < 4 then none else if be (bs.take 4) > 2147483647 then none else some ((be (bs.take 4):Int),bs.drop 4)
def rdI (bs:List UInt8):Option (Int × List UInt8) :=
  if bs.length < 8 then none else some (IntKind.i64.wrap (be (bs.take 8):Int),bs.drop 8)
def rdT (bs:List UInt8):Option (List UInt8 × List UInt8) :=
  match rdN bs with
  | none=>none
  | some (n,rest)=>if n > 65536 then none else if (rest.length:Int) < n then none else some (rest.take n.toNat,rest.drop n.toNat)
structure Rdr (w:World) (B rb:Nat) (bs:List UInt8) (A:Option Addr) (n c:Nat):Prop where
  ob:Ob w rb 256 [.slice A n c]
  len:n = bs.length
  cap:n ≤ c
  max:n ≤ 140737488351232
  row:Rd w B 1 A (Df bs)
  lt:B ≤ rb
theorem Rdr.st0 {w w':World} {B rb n c:Nat} {bs:List UInt8} {A:Option Addr} (h:Rdr w B rb bs A n c) (g:w.grownBy w' none):Rdr w' B rb bs A n c :=
  ⟨h.ob.st0 g,h.len,h.cap,h.max,h.row.st0 g,h.lt⟩
theorem Rdr.st1 {w w':World} {B rb n c b:Nat} {bs:List UInt8} {A:Option Addr} (h:Rdr w B rb bs A n c) (g:w.grownBy w' (some b)) (hne:rb ≠ b) (hB:B ≤ b):Rdr w' B rb bs A n c :=
  ⟨h.ob.st1 g hne,h.len,h.cap,h.max,h.row.st1 g hB,h.lt⟩
structure In (w:World) (B ib rb:Nat) (bs:List UInt8) (A:Option Addr) (n c:Nat):Prop where
  rdr:Rdr w B rb bs A n c
  inb:Ob w ib 202 [.pointer (some ⟨rb,0,none⟩)]
  ne:ib ≠ rb
  lti:B ≤ ib
theorem In.st0 {w w':World} {B ib rb n c:Nat} {bs:List UInt8} {A:Option Addr} (h:In w B ib rb bs A n c) (g:w.grownBy w' none):In w' B ib rb bs A n c :=
  ⟨h.rdr.st0 g,h.inb.st0 g,h.ne,h.lti⟩
theorem In.st1 {w w':World} {B ib rb n c b:Nat} {bs:List UInt8} {A:Option Addr} (h:In w B ib rb bs A n c) (g:w.grownBy w' (some b)) (h1:rb ≠ b) (h2:ib ≠ b) (hB:B ≤ b):In w' B ib rb bs A n c :=
  ⟨h.rdr.st1 g h1 hB,h.inb.st1 g h2,h.ne,h.lti⟩
theorem Rdr.stO {w w':World} {B rb n c n2 c2 base e k:Nat} {bs:List UInt8} {A A2:Option Addr} {xss:List (List Value)} (h:Rdr w B rb bs A n c) (g:w.grownBy w' (Value.slice A2 n2 c2).ownBlock) (own:Ow w base e k A2 c2 xss) (hne:e ≠ 256) (hB:B ≤ base):Rdr w' B rb bs A n c :=
  ⟨h.ob.stO g (own.ne_ty h.ob hne),h.len,h.cap,h.max,h.row.stO g own hB,h.lt⟩
theorem In.stO {w w':World} {B ib rb n c n2 c2 base e k:Nat} {bs:List UInt8} {A A2:Option Addr} {xss:List (List Value)} (h:In w B ib rb bs A n c) (g:w.grownBy w' (Value.slice A2 n2 c2).ownBlock) (own:Ow w base e k A2 c2 xss) (hne:e ≠ 256∧e ≠ 202) (hB:B ≤ base):In w' B ib rb bs A n c :=
  ⟨h.rdr.stO g own hne.1 hB,h.inb.stO g (own.ne_ty h.inb hne.2),h.ne,h.lti⟩
def rdL {α:Type} (rd:List UInt8 → Option (α × List UInt8)):Nat → List UInt8 → Option (List α × List UInt8)
  | 0,bs=>some ([],bs)
  | k + 1,bs=>match rdL rd k bs with
    | none=>none
    | some (l,r)=>match rd r with
      | none=>none
      | some (x, r') => some (l ++ [x], r')
theorem rdL_stop {α:Type} {rd:List UInt8 → Option (α × List UInt8)} {k:Nat} {bs r:List UInt8} {l:List α} (h:rdL rd k bs = some (l,r)) (hr:rd r = none) : ∀ m,k < m → rdL rd m bs = none
  | 0,hm=>by omega
  | m + 1,hm=>by
    rcases Nat.lt_or_ge k m with h1 | h1
    · simp [rdL,rdL_stop h hr m h1]
    · have:k = m:=by omega
      subst this
      simp [rdL,h,hr]
theorem ics_snoc (l:List Int) (x:Int):ics (l ++ [x]) = ics l ++ [[.int .i64 x]]:=by simp [ics]
def rdRow (bs:List UInt8):Option (Row × List UInt8) :=
  match rdN bs with
  | none=>none
  | some (c,r1)=>match rdN r1 with
    | none=>none
    | some (s,r2)=>match rdN r2 with
      | none=>none
      | some (e,r3)=>match rdI r3 with
        | none=>none
        | some (v,r4)=>some (⟨c,s,e,v⟩,r4)
def rdObj (bs:List UInt8):Option (Obj × List UInt8) :=
  match rdN bs with
  | none=>none
  | some (h,r1)=>match rdN r1 with
    | none=>none
    | some (a,r2)=>match rdN r2 with
      | none=>none
      | some (nw,r3)=>match rdN r3 with
        | none=>none
        | some (nl,r4)=>if By nw nl < 0 then none else match rdL rdI nw.toNat r4 with
          | none=>none
          | some (ws,r5)=>match rdL rdN nl.toNat r5 with
            | none=>none
            | some (ls,r6)=>some (⟨h,⟨a,By nw nl⟩,ws,ls⟩,r6)
theorem rdL_len {α:Type} {rd:List UInt8 → Option (α × List UInt8)} : ∀ {k:Nat} {bs r:List UInt8} {l:List α},rdL rd k bs = some (l,r) → l.length = k
  | 0,bs,r,l,h=>by simp [rdL] at h; simp [← h.1]
  | k + 1,bs,r,l,h=>by
    unfold rdL at h
    split at h
    · cases h
    · rename_i l' r' h1
      split at h
      · cases h
      · simp only [Option.some.injEq,Prod.mk.injEq] at h
        rw [← h.1]; simp [rdL_len h1]
def rows (l:List Row):List (List Value):=l.map Row.cells
theorem Ar (l:List Row):(rows l).length = l.length:=by simp [rows]
theorem rows_get {l:List Row} {k:Nat} {b:Row} (h:l[k]? = some b):(rows l)[k]? = some b.cells:=by simp [rows,h]
theorem rows_snoc (l:List Row) (x:Row):rows (l ++ [x]) = rows l ++ [x.cells]:=by simp [rows]
theorem needI_rng {a b:Int} (h:0 ≤ By a b):0 ≤ a∧a ≤ 32∧0 ≤ b∧b ≤ 16:=by
  unfold By at h
  split at h
  · assumption
  · omega
theorem Ow.weak {w:World} {base base' e k c:Nat} {A:Option Addr} {xss:List (List Value)} (h:Ow w base e k A c xss) (hb:base' ≤ base):Ow w base' e k A c xss :=
  ⟨⟨h.own.1,h.own.2.imp id fun ⟨g,cap,cur,h1,h2,r⟩=>⟨g,cap,cur,h1,Nat.le_trans hb h2,r⟩⟩,h.all⟩
theorem Ow.ne_or {w:World} {base b e k c n:Nat} {A:Option Addr} {xss:List (List Value)} (h:Ow w base e k A c xss) (hb:b < base ∨ w.heap.size ≤ b):(Value.slice A n c).ownBlock ≠ some b:=hb.elim h.ne_old h.ne_new
theorem Ow.stX {w w':World} {base b e k c:Nat} {A:Option Addr} {xss:List (List Value)} (h:Ow w base e k A c xss) (g:w.grownBy w' (some b)) (hb:b < base ∨ w.heap.size ≤ b):Ow w' base e k A c xss:=h.st1 g (hb.elim h.ne_old h.ne_new)
theorem Ow.stO {w w':World} {base base2 e e2 k k2 c c2 n2:Nat} {A A2:Option Addr} {xss yss:List (List Value)} (h:Ow w base e k A c xss) (g:w.grownBy w' (Value.slice A2 n2 c2).ownBlock) (own:Ow w base2 e2 k2 A2 c2 yss) (hne:e ≠ e2):Ow w' base e k A c xss:=by
  refine ⟨h.own.kept g ?_,h.all⟩
  rcases own.own.2 with ⟨h1,_⟩ | ⟨g2,cap2,cur2,h1,_,h2,_⟩
  · injection h1 with h1; subst h1
    cases A
    · exact .inl rfl
    · exact .inr (by simp [Value.ownBlock])
  · injection h1 with h1; subst h1
    exact .inr (h.ne_ty (b:=g2) (T:=e2) (cs:=cur2.toList) (by unfold Ob; simpa using h2) hne)
structure ObjO (w:World) (base:Nat) (ro:RObj) (o:Obj):Prop where
  h:ro.handle = o.handle
  b:ro.blk = o.blk
  wl:ro.words.n = o.words.length
  ll:ro.links.n = o.links.length
  ow:Ow w base 3 1 ro.words.a ro.words.c (ics o.words)
  ol:Ow w base 3 1 ro.links.a ro.links.c (ics o.links)
theorem ObjO.st0 {w w':World} {base:Nat} {ro:RObj} {o:Obj} (h:ObjO w base ro o) (g:w.grownBy w' none):ObjO w' base ro o:=⟨h.h,h.b,h.wl,h.ll,h.ow.st0 g,h.ol.st0 g⟩
theorem ObjO.stB {w w':World} {base b:Nat} {ro:RObj} {o:Obj} (h:ObjO w base ro o) (g:w.grownBy w' (some b)) (hb:b < base):ObjO w' base ro o:=⟨h.h,h.b,h.wl,h.ll,h.ow.st1 g (h.ow.ne_old hb),h.ol.st1 g (h.ol.ne_old hb)⟩
theorem ObjO.stN {w w':World} {base b:Nat} {ro:RObj} {o:Obj} (h:ObjO w base ro o) (g:w.grownBy w' (some b)) (hb:w.heap.size ≤ b):ObjO w' base ro o:=⟨h.h,h.b,h.wl,h.ll,h.ow.st1 g (h.ow.ne_new hb),h.ol.st1 g (h.ol.ne_new hb)⟩
theorem ObjO.st1 {w w':World} {base b:Nat} {ro:RObj} {o:Obj} (h:ObjO w base ro o) (g:w.grownBy w' (some b)) (hb:b < base ∨ w.heap.size ≤ b):ObjO w' base ro o:=hb.elim (h.stB g) (h.stN g)
theorem ObjO.stO {w w':World} {base base2 e2 k2 c2 n2:Nat} {A2:Option Addr} {yss:List (List Value)} {ro:RObj} {o:Obj} (h:ObjO w base ro o) (g:w.grownBy w' (Value.slice A2 n2 c2).ownBlock) (own:Ow w base2 e2 k2 A2 c2 yss) (hne:3 ≠ e2):ObjO w' base ro o :=
  ⟨h.h,h.b,h.wl,h.ll,h.ow.stO g own hne,h.ol.stO g own hne⟩
theorem ObjO.weak {w:World} {base base':Nat} {ro:RObj} {o:Obj} (h:ObjO w base ro o) (hb:base' ≤ base):ObjO w base' ro o:=⟨h.h,h.b,h.wl,h.ll,h.ow.weak hb,h.ol.weak hb⟩
theorem ObjO.stX {w0 w w':World} {base b:Nat} {ro:RObj} {o:Obj} (h:ObjO w base ro o) (h0:ObjO w0 base ro o) (g:w.grownBy w' (some b)) (hb:b < base ∨ w0.heap.size ≤ b):ObjO w' base ro o :=
  ⟨h.h,h.b,h.wl,h.ll,h.ow.st1 g (h0.ow.ne_or hb),h.ol.st1 g (h0.ol.ne_or hb)⟩
structure ObjsO (w:World) (base:Nat) (ros:List RObj) (os:List Obj):Prop where
  len:ros.length = os.length
  all : ∀ (i:Nat) (ro:RObj) (o:Obj),ros[i]? = some ro → os[i]? = some o → ObjO w base ro o
theorem ObjsO.nil_ (w:World) (base:Nat):ObjsO w base [] []:=⟨rfl,by simp⟩
theorem ObjsO.st0 {w w':World} {base:Nat} {ros:List RObj} {os:List Obj} (h:ObjsO w base ros os) (g:w.grownBy w' none):ObjsO w' base ros os:=⟨h.len,fun i ro o h1 h2=>(h.all i ro o h1 h2).st0 g⟩
theorem ObjsO.stB {w w':World} {base b:Nat} {ros:List RObj} {os:List Obj} (h:ObjsO w base ros os) (g:w.grownBy w' (some b)) (hb:b < base):ObjsO w' base ros os:=⟨h.len,fun i ro o h1 h2=>(h.all i ro o h1 h2).stB g hb⟩
theorem ObjsO.stN {w w':World} {base b:Nat} {ros:List RObj} {os:List Obj} (h:ObjsO w base ros os) (g:w.grownBy w' (some b)) (hb:w.heap.size ≤ b):ObjsO w' base ros os:=⟨h.len,fun i ro o h1 h2=>(h.all i ro o h1 h2).stN g hb⟩
theorem ObjsO.st1 {w w':World} {base b:Nat} {ros:List RObj} {os:List Obj} (h:ObjsO w base ros os) (g:w.grownBy w' (some b)) (hb:b < base ∨ w.heap.size ≤ b):ObjsO w' base ros os:=hb.elim (h.stB g) (h.stN g)
theorem ObjsO.stO {w w':World} {base base2 e2 k2 c2 n2:Nat} {A2:Option Addr} {yss:List (List Value)} {ros:List RObj} {os:List Obj} (h:ObjsO w base ros os) (g:w.grownBy w' (Value.slice A2 n2 c2).ownBlock) (own:Ow w base2 e2 k2 A2 c2 yss) (hne:3 ≠ e2):ObjsO w' base ros os :=
  ⟨h.len,fun i ro o h1 h2=>(h.all i ro o h1 h2).stO g own hne⟩
theorem ObjsO.stX {w0 w w':World} {base b:Nat} {ros:List RObj} {os:List Obj} (h:ObjsO w base ros os) (h0:ObjsO w0 base ros os) (g:w.grownBy w' (some b)) (hb:b < base ∨ w0.heap.size ≤ b):ObjsO w' base ros os :=
  ⟨h.len,fun i ro o h1 h2=>(h.all i ro o h1 h2).stX (h0.all i ro o h1 h2) g hb⟩
theorem ObjsO.weak {w:World} {base base':Nat} {ros:List RObj} {os:List Obj} (h:ObjsO w base ros os) (hb:base' ≤ base):ObjsO w base' ros os:=⟨h.len,fun i ro o h1 h2=>(h.all i ro o h1 h2).weak hb⟩
theorem ObjsO.snoc {w:World} {base:Nat} {ros:List RObj} {os:List Obj} {ro:RObj} {o:Obj} (h:ObjsO w base ros os) (h1:ObjO w base ro o):ObjsO w base (ros ++ [ro]) (os ++ [o]):=by
  refine ⟨by simp [h.len],fun i r x hr hx=>?_⟩
  rcases Nat.lt_or_ge i ros.length with hi | hi
  · rw [List.getElem?_append_left hi] at hr
    rw [List.getElem?_append_left (by rw [← h.len]; exact hi)] at hx
    exact h.all i r x hr hx
  · rw [List.getElem?_append_right hi] at hr
    rw [List.getElem?_append_right (by rw [← h.len]; exact hi),← h.len] at hx
    cases hk:i - ros.length with
    | zero=>rw [hk] at hr hx; simp at hr hx; subst hr; subst hx; exact h1
    | succ j=>rw [hk] at hr; simp at hr
def Cp (l:List RObj):List (List Value):=l.map RObj.cells
theorem Ak (l:List RObj):(Cp l).length = l.length:=by simp [Cp]
theorem Cj {l:List RObj} {k:Nat} {b:RObj} (h:l[k]? = some b):(Cp l)[k]? = some b.cells:=by simp [Cp,h]
theorem robjs_snoc (l:List RObj) (x:RObj):Cp (l ++ [x]) = Cp l ++ [x.cells]:=by simp [Cp]
theorem Dh {bs rest:List UInt8} {x:Int} (h:rdN bs = some (x,rest)):4 ≤ bs.length∧rest = bs.drop 4∧0 ≤ x∧x ≤ 2147483647:=by
  unfold rdN at h
  split at h
  · cases h
  · split at h
    · cases h
    · simp only [Option.some.injEq,Prod.mk.injEq] at h
      obtain ⟨rfl,rfl⟩:=h
      exact ⟨by omega,rfl,by omega,by omega⟩
theorem rdI_some {bs rest:List UInt8} {x:Int} (h:rdI bs = some (x,rest)):8 ≤ bs.length∧rest = bs.drop 8∧x = IntKind.i64.wrap (be (bs.take 8):Int):=by
  unfold rdI at h
  split at h
  · cases h
  · simp only [Option.some.injEq,Prod.mk.injEq] at h
    obtain ⟨rfl,rfl⟩:=h
    exact ⟨by omega,rfl,rfl⟩
theorem An {w w':World} (g:w.grownBy w' none) (row:Option Nat):w.grownBy w' row:=⟨g.os,g.tape,g.output,g.size,fun k hk _=>g.block k hk (by simp)⟩
theorem Ae {w w1 w2:World} {row:Option Nat} (g:w.grownBy w1 row) (h:w1.grownBy w2 row):w.grownBy w2 row :=
  ⟨h.os.trans g.os,h.tape.trans g.tape,h.output.trans g.output,Nat.le_trans g.size h.size,fun k hk hne=>(h.block k (Nat.lt_of_lt_of_le hk g.size) hne).trans (g.block k hk hne)⟩
theorem Ah {w w1 w2:World} {row:Option Nat} {b:Nat} (g:w.grownBy w1 row) (h:w1.grownBy w2 (some b)) (hb:w.heap.size ≤ b):w.grownBy w2 row :=
  ⟨h.os.trans g.os,h.tape.trans g.tape,h.output.trans g.output,Nat.le_trans g.size h.size,fun k hk hne=>(h.block k (Nat.lt_of_lt_of_le hk g.size) (by simp; omega)).trans (g.block k hk hne)⟩
end Go.Eng
namespace Go.Eng
open Go Go.RowKit
def bsGo (hs:List Int) (t:Int) (i j:Nat):Nat :=
  if i < j then (if hs.getD ((i + j) / 2) 0 < t then bsGo hs t ((i + j) / 2 + 1) j else bsGo hs t i ((i + j) / 2)) else i
termination_by j - i
def bsI (hs:List Int) (t:Int):Nat:=bsGo hs t 0 hs.length
def foundB (hs:List Int) (t:Int):Bool:=decide (bsI hs t < hs.length) && decide (hs.getD (bsI hs t) 0 = t)
theorem bsGo_lo {hs:List Int} {t:Int} {i j m:Nat} (hij:i < j) (hm:m = (i + j) / 2) (h:hs.getD m 0 < t):bsGo hs t (m + 1) j = bsGo hs t i j:=by
  subst hm; conv=>rhs; unfold bsGo
  rw [if_pos hij,if_pos h]
theorem bsGo_hi {hs:List Int} {t:Int} {i j m:Nat} (hij:i < j) (hm:m = (i + j) / 2) (h : ¬ hs.getD m 0 < t):bsGo hs t i m = bsGo hs t i j:=by
  subst hm; conv=>rhs; unfold bsGo
  rw [if_pos hij,if_neg h]
theorem bsGo_end {hs:List Int} {t:Int} {i j:Nat} (hij : ¬ i < j):bsGo hs t i j = i:=by unfold bsGo; rw [if_neg hij]
def hds (l:List RObj):List Int:=l.map RObj.handle
theorem hds_length (l:List RObj):(hds l).length = l.length:=by simp [hds]
theorem hds_get {l:List RObj} {k:Nat} {o:RObj} (h:l[k]? = some o):(hds l).getD k 0 = o.handle:=by simp [hds,List.getD_eq_getElem?_getD,h]
theorem shr1 {i j m:Nat} (hm:m = (i + j) / 2):((i:Int) + (j:Int)).fdiv (2 ^ (min (1:Int).toNat (IntKind.bits .u64))) = (m:Int):=by
  have e:(2:Int) ^ (min (1:Int).toNat (IntKind.bits .u64)) = 2:=by decide
  rw [e,Int.fdiv_eq_ediv_of_nonneg _ (by omega)]
  omega
def cmpI (x y:Int):Int:=if x < y then -1 else if y < x then 1 else 0
theorem cmpI_lt {x y:Int} : cmpI x y < 0 ↔ x < y:=by unfold cmpI; split <;> (try split) <;> simp_all
theorem cmpI_eq {x y:Int} : cmpI x y = 0 ↔ x = y:=by unfold cmpI; split <;> (try split) <;> omega
def leadB (hs:List Int) (t:Int):Bool:=decide (t = 0) || foundB hs t
def idxFrom {α:Type} (p:α → Bool):Nat → List α → Int
  | _,[] => -1
  | k,x :: l=>if p x then (k:Int) else idxFrom p (k + 1) l
def idxF {α:Type} (p:α → Bool) (l:List α):Int:=idxFrom p 0 l
theorem idxF_yes {α:Type} {p:α → Bool} {l:List α} {k:Nat} {x:α} (h:idxFrom p k (l.drop k) = idxF p l) (hx:l[k]? = some x) (hp:p x = true):(k:Int) = idxF p l:=by
  rw [← h,Bp hx,idxFrom,if_pos hp]
theorem idxF_go {α:Type} {p:α → Bool} {l:List α} {k:Nat} {x:α} (h:idxFrom p k (l.drop k) = idxF p l) (hx:l[k]? = some x) (hp:p x = false):idxFrom p (k + 1) (l.drop (k + 1)) = idxF p l:=by
  rw [← h,Bp hx]; conv=>rhs; unfold idxFrom
  rw [hp]; rfl
theorem idxF_end {α:Type} {p:α → Bool} {l:List α} {k:Nat} (h:idxFrom p k (l.drop k) = idxF p l) (hk:l.length ≤ k):(-1:Int) = idxF p l:=by
  rw [← h,List.drop_eq_nil_of_le hk,idxFrom]
theorem idxFrom_any {α:Type} (p:α → Bool) : ∀ (l:List α) (k:Nat),decide (0 ≤ idxFrom p k l) = l.any p
  | [],k=>rfl
  | x :: l,k=>by
    unfold idxFrom
    cases h:p x
    · simp [h,idxFrom_any p l (k + 1)]
    · simp [h]
theorem idxF_any {α:Type} (p:α → Bool) (l:List α):decide (0 ≤ idxF p l) = l.any p:=idxFrom_any p l 0
theorem one_map {α:Type} {f:α → List Value} (h : ∀ x, ∀ u ∈ f x,Value.oneCell' u = true) (l:List α) : ∀ u ∈ (l.map f).flatten,Value.oneCell' u = true:=by
  intro u hu
  obtain ⟨y,hy,hu⟩:=List.mem_flatten.1 hu
  obtain ⟨x,_,rfl⟩:=List.mem_map.1 hy
  exact h x u hu
theorem blks_one (l:List Blk) : ∀ u ∈ (Cq l).flatten,Value.oneCell' u = true:=one_map (by intro x u hu; simp [Blk.cells] at hu; rcases hu with rfl | rfl <;> rfl) l
theorem ics_one (l:List Int) : ∀ u ∈ (ics l).flatten,Value.oneCell' u = true:=one_map (by intro x u hu; simp at hu; subst hu; rfl) l
theorem bcs_one (l:List UInt8) : ∀ u ∈ (Df l).flatten,Value.oneCell' u = true:=one_map (by intro x u hu; simp [bc] at hu; subst hu; rfl) l
theorem rows_one (l:List Row) : ∀ u ∈ (rows l).flatten,Value.oneCell' u = true:=one_map (by intro x u hu; simp [Row.cells] at hu; rcases hu with rfl | rfl | rfl | rfl <;> rfl) l
theorem robjs_one (l:List RObj) : ∀ u ∈ (Cp l).flatten,Value.oneCell' u = true:=one_map (by intro x u hu; simp [RObj.cells] at hu; rcases hu with rfl | rfl | rfl | rfl | rfl <;> rfl) l
theorem ics_app (l m:List Int):ics (l ++ m) = ics l ++ ics m:=by simp [ics]
theorem blks_app (l m:List Blk):Cq (l ++ m) = Cq l ++ Cq m:=by simp [Cq]
end Go.Eng
namespace Go.Eng
open Go Go.RowKit
def insB (b:Blk):List Blk → List Blk
  | []=>[b]
  | c :: l=>if b.at_ ≤ c.at_ then b :: c :: l else c :: insB b l
def isort:List Blk → List Blk
  | []=>[]
  | b :: l=>insB b (isort l)
theorem insB_perm (b:Blk) : ∀ l:List Blk,(insB b l).Perm (b :: l)
  | []=>List.Perm.refl _
  | c :: l=>by
    unfold insB
    split
    · exact List.Perm.refl _
    · exact ((insB_perm b l).cons c).trans (List.Perm.swap b c l)
theorem isort_perm : ∀ l:List Blk,(isort l).Perm l
  | []=>List.Perm.refl _
  | b :: l=>(insB_perm b (isort l)).trans ((isort_perm l).cons b)
theorem insB_sorted (b:Blk) : ∀ l:List Blk,l.Pairwise (fun x y=>x.at_ ≤ y.at_) → (insB b l).Pairwise (fun x y=>x.at_ ≤ y.at_)
  | [],_=>by simp [insB]
  | c :: l,h=>by
    unfold insB
    rw [List.pairwise_cons] at h
    split
    · rename_i hle
      rw [List.pairwise_cons]
      refine ⟨fun x hx=>?_,List.pairwise_cons.2 h⟩
      rcases List.mem_cons.1 hx with rfl | hx
      · exact hle
      · exact Int.le_trans hle (h.1 x hx)
    · rename_i hle
      rw [List.pairwise_cons]
      refine ⟨fun x hx=>?_,insB_sorted b l h.2⟩
      rcases List.mem_cons.1 ((insB_perm b l).mem_iff.1 hx) with rfl | hx
      · omega
      · exact h.1 x hx
theorem isort_sorted : ∀ l:List Blk,(isort l).Pairwise (fun x y=>x.at_ ≤ y.at_)
  | []=>List.Pairwise.nil
  | b :: l=>insB_sorted b _ (isort_sorted l)
def Bx:Int → List Blk → Option Int
  | e,[]=>some e
  | e,b :: l=>if b.at_ = e then Bx (e + Af b.ord) l else none
theorem contigGo_ge : ∀ {l:List Blk} {e x:Int},(∀ b ∈ l,1 ≤ Af b.ord) → Bx e l = some x → ∀ b ∈ l,e ≤ b.at_
  | [],_,_,_,_,b,hb=>by simp at hb
  | c :: l,e,x,hw,h,b,hb=>by
    unfold Bx at h
    split at h
    · rename_i he
      rcases List.mem_cons.1 hb with rfl | hb
      · omega
      · have:=contigGo_ge (fun b hb=>hw b (List.mem_cons_of_mem _ hb)) h b hb
        have:=hw c (by simp)
        omega
    · cases h
theorem contig_perm : ∀ {l1 l2:List Blk} {e x:Int},(∀ b ∈ l1,1 ≤ Af b.ord) → l2.Pairwise (fun a b=>a.at_ ≤ b.at_) → l1.Perm l2 → Bx e l1 = some x → Bx e l2 = some x
  | [],l2,e,x,_,_,hp,h=>by rw [List.nil_perm.1 hp]; exact h
  | b :: l1,l2,e,x,hw,hs,hp,h=>by
    unfold Bx at h
    split at h
    · rename_i he
      have hw' : ∀ b ∈ l1,1 ≤ Af b.ord:=fun b hb=>hw b (List.mem_cons_of_mem _ hb)
      have hge:=contigGo_ge hw' h
      have hwb:=hw b (by simp)
      rcases l2 with _ | ⟨c,l2⟩
      · exact absurd hp.length_eq (by simp)
      · have hc:c ∈ b :: l1:=hp.mem_iff.2 (by simp)
        have hb:b ∈ c :: l2:=hp.mem_iff.1 (by simp)
        have hcb:c = b:=by
          rcases List.mem_cons.1 hc with h1 | h1
          · exact h1
          · rcases List.mem_cons.1 hb with h2 | h2
            · exact h2.symm
            · have h3:=hge c h1
              have h4:=(List.pairwise_cons.1 hs).1 b h2
              omega
        subst hcb
        unfold Bx
        rw [if_pos he]
        exact contig_perm hw' (List.pairwise_cons.1 hs).2 (List.Perm.cons_inv hp) h
    · cases h
theorem contigGo_snoc : ∀ {l:List Blk} {e x:Int} {b:Blk},Bx e l = some x → Bx e (l ++ [b]) = if b.at_ = x then some (x + Af b.ord) else none
  | [],e,x,b,h=>by
    simp only [Bx,Option.some.injEq] at h; subst h
    simp [Bx]
  | c :: l,e,x,b,h=>by
    unfold Bx at h
    split at h
    · rename_i he
      simp only [List.cons_append,Bx,if_pos he]
      exact contigGo_snoc h
    · cases h
theorem contigGo_stop : ∀ {l m:List Blk} {e:Int},Bx e l = none → Bx e (l ++ m) = none
  | [],_,_,h=>by simp [Bx] at h
  | c :: l,m,e,h=>by
    unfold Bx at h
    simp only [List.cons_append,Bx]
    split at h
    · rename_i he; rw [if_pos he]; exact contigGo_stop h
    · rename_i he; rw [if_neg he]
def ascB (next:Int):Int → List Int → Bool
  | _,[]=>true
  | last,x :: l=>decide (last < x) && decide (x < next) && ascB next x l
def objB (order:Int) (o:Obj):Bool :=
  decide (By o.words.length o.links.length = o.blk.ord) && Az o.blk.ord 0 order && Az o.blk.at_ 0 (Af order) && decide (o.blk.at_.tmod (Af o.blk.ord) = 0)
def Heap.handles (h:Heap):List Int:=h.objs.map Obj.handle
def Heap.blocks (h:Heap):List Blk:=h.free ++ h.objs.map Obj.blk
def Heap.links (h:Heap):List Int:=(h.objs.map Obj.links).flatten
def Heap.lost (h:Heap):Int → Bool:=fun x => !(leadB h.handles x)
def Dc (h:Heap):Bool :=
  buddyB h.order h.free && Az h.next 1 1000001 && decide (h.objs.length ≤ 256) && ascB h.next 0 h.handles && h.objs.all (objB h.order)
    && decide (Bx 0 (isort h.blocks) = some (Af h.order)) && !(h.links.any h.lost) && !(h.tops.any h.lost)
structure ObjR (w:World) (B:Nat) (ro:RObj) (o:Obj):Prop where
  h:ro.handle = o.handle
  b:ro.blk = o.blk
  wl:ro.words.n = o.words.length
  ll:ro.links.n = o.links.length
  wm:ro.words.n ≤ 140737488351232
  lm:ro.links.n ≤ 140737488351232
  rw_:Rd w B 1 ro.words.a (ics o.words)
  rl:Rd w B 1 ro.links.a (ics o.links)
theorem ObjR.st0 {w w':World} {B:Nat} {ro:RObj} {o:Obj} (h:ObjR w B ro o) (g:w.grownBy w' none):ObjR w' B ro o:=⟨h.h,h.b,h.wl,h.ll,h.wm,h.lm,h.rw_.st0 g,h.rl.st0 g⟩
theorem ObjR.st1 {w w':World} {B b:Nat} {ro:RObj} {o:Obj} (h:ObjR w B ro o) (g:w.grownBy w' (some b)) (hB:B ≤ b):ObjR w' B ro o:=⟨h.h,h.b,h.wl,h.ll,h.wm,h.lm,h.rw_.st1 g hB,h.rl.st1 g hB⟩
theorem ObjR.stO {w w':World} {B base e k c n:Nat} {ro:RObj} {o:Obj} {A:Option Addr} {xss:List (List Value)} (h:ObjR w B ro o) (g:w.grownBy w' (Value.slice A n c).ownBlock) (own:Ow w base e k A c xss) (hB:B ≤ base):ObjR w' B ro o :=
  ⟨h.h,h.b,h.wl,h.ll,h.wm,h.lm,h.rw_.stO g own hB,h.rl.stO g own hB⟩
structure ObjsR (w:World) (B:Nat) (s:Sl) (ros:List RObj) (os:List Obj):Prop where
  len:ros.length = os.length
  n:s.n = ros.length
  m:s.n ≤ 140737488351232
  rd:Rd w B 5 s.a (Cp ros)
  all : ∀ (i:Nat) (ro:RObj) (o:Obj),ros[i]? = some ro → os[i]? = some o → ObjR w B ro o
theorem ObjsR.st0 {w w':World} {B:Nat} {s:Sl} {ros:List RObj} {os:List Obj} (h:ObjsR w B s ros os) (g:w.grownBy w' none):ObjsR w' B s ros os:=⟨h.len,h.n,h.m,h.rd.st0 g,fun i ro o h1 h2=>(h.all i ro o h1 h2).st0 g⟩
theorem ObjsR.st1 {w w':World} {B b:Nat} {s:Sl} {ros:List RObj} {os:List Obj} (h:ObjsR w B s ros os) (g:w.grownBy w' (some b)) (hB:B ≤ b):ObjsR w' B s ros os:=⟨h.len,h.n,h.m,h.rd.st1 g hB,fun i ro o h1 h2=>(h.all i ro o h1 h2).st1 g hB⟩
theorem ObjsR.stO {w w':World} {B base e k c n:Nat} {s:Sl} {ros:List RObj} {os:List Obj} {A:Option Addr} {xss:List (List Value)} (h:ObjsR w B s ros os) (g:w.grownBy w' (Value.slice A n c).ownBlock) (own:Ow w base e k A c xss) (hB:B ≤ base):ObjsR w' B s ros os :=
  ⟨h.len,h.n,h.m,h.rd.stO g own hB,fun i ro o h1 h2=>(h.all i ro o h1 h2).stO g own hB⟩
structure HeapR (w:World) (B:Nat) (rh:RHeap) (ros:List RObj) (h:Heap):Prop where
  order:rh.order = h.order
  next:rh.next = h.next
  tops:[rh.t0,rh.t1,rh.t2,rh.t3] = h.tops
  objs:ObjsR w B rh.objs ros h.objs
  fn:rh.free.n = h.free.length
  fm:rh.free.n ≤ 140737488351232
  fr:Rd w B 2 rh.free.a (Cq h.free)
theorem HeapR.st0 {w w':World} {B:Nat} {rh:RHeap} {ros:List RObj} {h:Heap} (H:HeapR w B rh ros h) (g:w.grownBy w' none):HeapR w' B rh ros h:=⟨H.order,H.next,H.tops,H.objs.st0 g,H.fn,H.fm,H.fr.st0 g⟩
theorem HeapR.st1 {w w':World} {B b:Nat} {rh:RHeap} {ros:List RObj} {h:Heap} (H:HeapR w B rh ros h) (g:w.grownBy w' (some b)) (hB:B ≤ b):HeapR w' B rh ros h:=⟨H.order,H.next,H.tops,H.objs.st1 g hB,H.fn,H.fm,H.fr.st1 g hB⟩
theorem HeapR.stO {w w':World} {B base e k c n:Nat} {rh:RHeap} {ros:List RObj} {h:Heap} {A:Option Addr} {xss:List (List Value)} (H:HeapR w B rh ros h) (g:w.grownBy w' (Value.slice A n c).ownBlock) (own:Ow w base e k A c xss) (hB:B ≤ base):HeapR w' B rh ros h :=
  ⟨H.order,H.next,H.tops,H.objs.stO g own hB,H.fn,H.fm,H.fr.stO g own hB⟩
theorem ObjsR.hds {w:World} {B:Nat} {s:Sl} {ros:List RObj} {os:List Obj} (h:ObjsR w B s ros os):Eng.hds ros = os.map Obj.handle:=by
  apply List.ext_getElem?
  intro i
  simp only [Eng.hds,List.getElem?_map]
  cases h1:ros[i]? with
  | none =>
    rw [List.getElem?_eq_none_iff] at h1
    rw [List.getElem?_eq_none (by rw [← h.len]; exact h1)]; rfl
  | some ro =>
    have hi:i < os.length:=by rw [← h.len]; exact (List.getElem?_eq_some_iff.1 h1).1
    have h2:=List.getElem?_eq_getElem hi
    rw [h2]
    simp only [Option.map_some]
    rw [(h.all i ro _ h1 h2).h]
theorem HeapR.hds {w:World} {B:Nat} {rh:RHeap} {ros:List RObj} {h:Heap} (H:HeapR w B rh ros h):Eng.hds ros = h.handles:=H.objs.hds
theorem buddyGo_at {o:Int} : ∀ {l:List Blk} {e:Int} {last:Blk},buddyGo o l e last = true → ∀ b ∈ l,mayB o b = true∧e ≤ b.at_
  | [],_,_,_,b,hb=>by simp at hb
  | c :: l,e,last,h,b,hb=>by
    unfold buddyGo at h
    simp only [Bool.and_eq_true,Bool.not_eq_true',decide_eq_false_iff_not] at h
    obtain ⟨⟨⟨h1,h2⟩,_⟩,h4⟩:=h
    rcases List.mem_cons.1 hb with rfl | hb
    · exact ⟨h1,by omega⟩
    · have h5:=buddyGo_at h4 b hb
      have h6:=(Bc c.ord).1
      exact ⟨h5.1,by omega⟩
theorem buddyGo_len {o:Int} (ho:o ≤ 8) : ∀ {l:List Blk} {e:Int} {last:Blk},0 ≤ e → buddyGo o l e last = true → e + l.length ≤ 257 ∨ l = []
  | [],_,_,_,_=>.inr rfl
  | c :: l,e,last,he,h=>by
    unfold buddyGo at h
    simp only [Bool.and_eq_true,Bool.not_eq_true',decide_eq_false_iff_not] at h
    obtain ⟨⟨⟨h1,h2⟩,_⟩,h4⟩:=h
    obtain ⟨m1,m2,m3,m4⟩:=mayB_bd h1
    have hw:=Bt m1 (by omega)
    have hb:=(Bc o).2
    rcases buddyGo_len ho (e:=c.at_ + Af c.ord) (by omega) h4 with h5 | h5
    · left; simp only [List.length_cons]; omega
    · subst h5; left; simp only [List.length_cons,List.length_nil]; omega
theorem buddyB_len {o:Int} {l:List Blk} (h:buddyB o l = true):l.length ≤ 257∧3 ≤ o∧o ≤ 8 ∧ ∀ b ∈ l,1 ≤ Af b.ord:=by
  unfold buddyB at h
  rw [Bool.and_eq_true] at h
  have h1:=Bh h.1
  refine ⟨?_,h1.1,h1.2,fun b hb=>?_⟩
  · rcases buddyGo_len h1.2 (Int.le_refl 0) h.2 with h2 | h2
    · omega
    · simp [h2]
  · obtain ⟨m1,m2,_,_⟩:=mayB_bd (buddyGo_at h.2 b hb).1
    exact Bt m1 (by omega)
theorem objB_pos {o:Int} (ho:o ≤ 8) {x:Obj} (h:objB o x = true):1 ≤ Af x.blk.ord:=by
  unfold objB at h
  simp only [Bool.and_eq_true] at h
  have:=Bh h.1.1.2
  exact Bt this.1 (by omega)
theorem ite_ne0 {b:Bool} (h:(if b then (0:Int) else 1) ≠ 0):b = false:=by cases b <;> simp_all
theorem ite_eq0 {b:Bool} (h : ¬ (if b then (0:Int) else 1) ≠ 0):b = true:=by cases b <;> simp_all
theorem ite_eq0' {b:Bool} (h:(if b then (0:Int) else 1) = 0):b = true:=by cases b <;> simp_all
theorem ite_ne0' {b:Bool} (h : ¬ (if b then (0:Int) else 1) = 0):b = false:=by cases b <;> simp_all
theorem asc_go {next last:Int} {ros:List RObj} {ro:RObj} {k:Nat} {X:Bool} (h:ascB next last ((hds ros).drop k) = X) (he:ros[k]? = some ro) (h1 : ¬ ro.handle ≤ last) (h2 : ¬ next ≤ ro.handle):ascB next ro.handle ((hds ros).drop (k + 1)) = X:=by
  have hk:(hds ros)[k]? = some ro.handle:=by simp [hds,he]
  rw [← h,Bp hk,ascB,decide_eq_true (by omega:last < ro.handle),decide_eq_true (by omega:ro.handle < next)]; simp
theorem asc_no {next last:Int} {ros:List RObj} {ro:RObj} {k:Nat} {X:Bool} (h:ascB next last ((hds ros).drop k) = X) (he:ros[k]? = some ro) (h1:ro.handle ≤ last ∨ next ≤ ro.handle):X = false:=by
  have hk:(hds ros)[k]? = some ro.handle:=by simp [hds,he]
  rw [← h,Bp hk,ascB]
  rcases h1 with h1 | h1
  · rw [decide_eq_false (by omega : ¬ last < ro.handle)]; simp
  · rw [decide_eq_false (by omega : ¬ ro.handle < next)]; simp
theorem asc_end {next last:Int} {ros:List RObj} {k:Nat} {X:Bool} (h:ascB next last ((hds ros).drop k) = X) (hk:ros.length ≤ k):X = true:=by
  rw [← h,List.drop_eq_nil_of_le (by rw [hds_length]; exact hk),ascB]
theorem take_snoc {α:Type} {l:List α} {k:Nat} {x:α} (h:l[k]? = some x):l.take (k + 1) = l.take k ++ [x]:=by
  obtain ⟨h1,rfl⟩:=List.getElem?_eq_some_iff.1 h
  exact List.take_succ_eq_append_getElem h1
theorem all_no {α:Type} {p:α → Bool} {l:List α} {k:Nat} {x:α} (h:l[k]? = some x) (hp:p x = false):l.all p = false:=by
  rw [List.all_eq_false]
  exact ⟨x,List.mem_of_getElem? h,by simp [hp]⟩
theorem contig_stop {l:List Blk} {k:Nat} {e e0:Int} {b:Blk} (hc:Bx e0 (l.take k) = some e) (hb:l[k]? = some b) (hne:b.at_ ≠ e):Bx e0 l = none:=by
  have h1:Bx e0 (l.take (k + 1)) = none:=by rw [take_snoc hb,contigGo_snoc hc,if_neg hne]
  have:=contigGo_stop (m:=l.drop (k + 1)) h1
  rwa [List.take_append_drop] at this
theorem contig_iff {l l':List Blk} {e x:Int} (hw : ∀ b ∈ l,1 ≤ Af b.ord) (hp:l'.Perm l) (hs:l'.Pairwise (fun a b=>a.at_ ≤ b.at_)):Bx e (isort l) = some x ↔ Bx e l' = some x:=by
  have p1:(isort l).Perm l':=(isort_perm l).trans hp.symm
  constructor
  · exact contig_perm (fun b hb=>hw b ((isort_perm l).mem_iff.1 hb)) hs p1
  · exact contig_perm (fun b hb=>hw b (hp.mem_iff.1 hb)) (isort_sorted l) p1.symm
theorem heapB_no {h:Heap} (H:buddyB h.order h.free = false ∨ Az h.next 1 1000001 = false ∨ 256 < h.objs.length ∨ ascB h.next 0 h.handles = false ∨ h.objs.all (objB h.order) = false
    ∨ Bx 0 (isort h.blocks) ≠ some (Af h.order) ∨ h.links.any h.lost = true ∨ h.tops.any h.lost = true):Dc h = false:=by
  unfold Dc
  rcases H with H | H | H | H | H | H | H | H
  · simp [H]
  · simp [H]
  · rw [decide_eq_false (by omega : ¬ h.objs.length ≤ 256)]; simp
  · simp [H]
  · simp [H]
  · simp [H]
  · rw [H]; simp
  · rw [H]; simp
theorem heapB_yes {h:Heap} (h1:buddyB h.order h.free = true) (h2:Az h.next 1 1000001 = true) (h3:h.objs.length ≤ 256) (h4:ascB h.next 0 h.handles = true) (h5:h.objs.all (objB h.order) = true)
    (h6:Bx 0 (isort h.blocks) = some (Af h.order)) (h7:h.links.any h.lost = false) (h8:h.tops.any h.lost = false):Dc h = true:=by
  unfold Dc
  rw [h1,h2,h4,h5,h6,h7,h8]; simp [h3]
end Go.Eng
namespace Go.Eng
open Go Go.RowKit
def hitB (size:Int) (b:Blk) (x:Blk):Bool:=decide (x.at_ ≤ size) && decide (b.at_ < x.at_ + Af x.ord) && decide (x.at_ < b.at_ + Af b.ord)
def leftB (size:Int) (xs:List Blk):Nat → Blk → List Blk
  | 0,b=>if xs.any (hitB size b) then [] else [b]
  | n + 1,b=>if xs.any (hitB size b) then (if b.ord > 0 then leftB size xs n ⟨b.at_,b.ord - 1⟩ ++ leftB size xs n ⟨b.at_ + Af (b.ord - 1),b.ord - 1⟩ else []) else [b]
def Dq (size:Int) (xs:List Blk) (l:List Blk):List Blk:=(l.map fun b=>leftB size xs 9 b).flatten
theorem leftB_fuel (size:Int) (xs:List Blk) : ∀ (n m:Nat) (b:Blk),0 ≤ b.ord → b.ord ≤ n → b.ord ≤ m → leftB size xs n b = leftB size xs m b
  | 0,0,b,_,_,_=>rfl
  | 0,m + 1,b,h0,h1,_=>by
    have : ¬ b.ord > 0:=by omega
    simp [leftB,this]
  | n + 1,0,b,h0,_,h2=>by
    have : ¬ b.ord > 0:=by omega
    simp [leftB,this]
  | n + 1,m + 1,b,h0,h1,h2=>by
    unfold leftB
    by_cases h:b.ord > 0
    · rw [if_pos h,if_pos h,leftB_fuel size xs n m ⟨b.at_,b.ord - 1⟩ (by simp only; omega) (by simp only; omega) (by simp only; omega),leftB_fuel size xs n m ⟨_,b.ord - 1⟩ (by simp only; omega) (by simp only; omega) (by simp only; omega)]
    · rw [if_neg h,if_neg h]
theorem leftL_out {size:Int} {xs:List Blk} {b:Blk} {l:List Blk} (h:xs.any (hitB size b) = false):Dq size xs (b :: l) = b :: Dq size xs l:=by
  have e:leftB size xs 9 b = [b]:=by
    conv=>lhs; unfold leftB
    rw [h]; rfl
  simp only [Dq,List.map_cons,List.flatten_cons,e]; rfl
theorem leftL_half {size:Int} {xs:List Blk} {b:Blk} {l:List Blk} (h:xs.any (hitB size b) = true) (h0:0 < b.ord) (h8:b.ord ≤ 8) :
    Dq size xs (b :: l) = Dq size xs (⟨b.at_,b.ord - 1⟩ :: ⟨b.at_ + Af (b.ord - 1),b.ord - 1⟩ :: l):=by
  have e:leftB size xs 9 b = leftB size xs 8 ⟨b.at_,b.ord - 1⟩ ++ leftB size xs 8 ⟨b.at_ + Af (b.ord - 1),b.ord - 1⟩:=by
    conv=>lhs; unfold leftB
    rw [h,if_pos rfl,if_pos (show b.ord > 0 by omega)]
  simp only [Dq,List.map_cons,List.flatten_cons,e]
  rw [leftB_fuel size xs 8 9 ⟨b.at_,b.ord - 1⟩ (by simp only; omega) (by simp only; omega) (by simp only; omega),leftB_fuel size xs 8 9 ⟨_,b.ord - 1⟩ (by simp only; omega) (by simp only; omega) (by simp only; omega),List.append_assoc]
theorem leftL_gone {size:Int} {xs:List Blk} {b:Blk} {l:List Blk} (h:xs.any (hitB size b) = true) (h0 : ¬ 0 < b.ord):Dq size xs (b :: l) = Dq size xs l:=by
  have : ¬ b.ord > 0:=h0
  have e:leftB size xs 9 b = []:=by
    conv=>lhs; unfold leftB
    rw [h,if_pos rfl,if_neg this]
  simp only [Dq,List.map_cons,List.flatten_cons,e]; rfl
def wt (b:Blk):Nat:=2 ^ (b.ord.toNat + 1) - 1
def wts (l:List Blk):Nat:=(l.map wt).sum
theorem wts_cons (b:Blk) (l:List Blk):wts (b :: l) = wt b + wts l:=by simp [wts]
theorem wt_pos (b:Blk):1 ≤ wt b:=by
  unfold wt
  have:2 ^ 1 ≤ 2 ^ (b.ord.toNat + 1):=Nat.pow_le_pow_right (by omega) (by omega)
  omega
theorem wt_half {b:Blk} (h0:0 < b.ord) (a1 a2:Int):wt ⟨a1,b.ord - 1⟩ + wt ⟨a2,b.ord - 1⟩ + 1 = wt b:=by
  unfold wt
  have e:b.ord.toNat + 1 = ((b.ord - 1).toNat + 1) + 1:=by omega
  have h:=Nat.pow_succ 2 ((b.ord - 1).toNat + 1)
  rw [e]
  simp only
  have h2:2 ^ 1 ≤ 2 ^ ((b.ord - 1).toNat + 1):=Nat.pow_le_pow_right (by omega) (by omega)
  omega
theorem wts_len : ∀ l:List Blk,l.length ≤ wts l
  | []=>by simp [wts]
  | b :: l=>by rw [wts_cons,List.length_cons]; have:=wts_len l; have:=wt_pos b; omega
theorem wordsI_half {o:Int} (h0:0 < o) (h8:o ≤ 8):Af o = Af (o - 1) + Af (o - 1):=by
  rcases wordsI_cases (o:=o) (by omega) h8 with rfl | rfl | rfl | rfl | rfl | rfl | rfl | rfl | rfl
  · omega
  all_goals decide
def inReg (l:List Blk):Prop := ∀ b ∈ l,0 ≤ b.ord∧b.ord ≤ 8∧0 ≤ b.at_∧b.at_ + Af b.ord ≤ 256
theorem wts1 {o:Int} (h0:0 ≤ o) (h8:o ≤ 8):wts [⟨0,o⟩] ≤ 511:=by
  rcases wordsI_cases h0 h8 with rfl | rfl | rfl | rfl | rfl | rfl | rfl | rfl | rfl <;> decide
end Go.Eng
namespace Go.Eng
open Go Go.RowKit
section
variable {P:Program} {N:Nat} {Q Q':Exit → Da → World → Prop} {ρ:Da} {w:World} {ops rest:List Oper} {d:Option Tmp} {ty:TypeId} {ps:String} {af:Array Edge} {gu:Option (Nat × Bool)}
variable {x y z:Operand} {v u:Value} {t t' ty':TypeId}
def tx (l:List UInt8):ByteArray:=⟨l.toArray⟩
theorem push_all : ∀ (l:List UInt8) (r:ByteArray),(l.map fun b=>(b.toNat:Int)).foldl (fun r n=>r.push (UInt8.ofNat n.toNat)) r = ⟨r.data ++ l.toArray⟩
  | [],r=>by simp
  | b :: l,r=>by
    simp only [List.map_cons,List.foldl_cons,push_all l]
    congr 1
    simp [ByteArray.push]
theorem Ex.b2s {src dst e:TypeId} {A:Option Addr} {m c B:Nat} {bs:List UInt8} (hs:P.underlying src = some (.slice e)) (he:P.underlying e = some (.int .u8)) (hd:P.underlying dst = some .string)
    (hx:ev ρ x = .slice A m c) (hr:Rd w B 1 A (Df bs)) (hm:m ≤ bs.length):Ex P ρ ⟨d,.convert src dst x,ty,ps,af,gu⟩ w (.string (tx (bs.take m))) w:=by
  unfold Ex; refine Cc ?_
  rw [hx]
  rcases A with _ | ad
  · have hb:bs = []:=by
      rcases bs with _ | ⟨b,bs⟩
      · rfl
      · obtain ⟨ad,h,_⟩:=hr.2 (by simp [Df]); cases h
    subst hb
    simp [convert,run_underlying hs,run_underlying hd,run_underlying he,Conv.bytesToString,tx]
    rfl
  · rw [run_convert_bytes_string w src dst e (some ad) m c hs he hd]
    have hl:(loadCells ad m).run P w = .ok (((bs.take m).map fun b=>(b.toNat:Int)).map (Value.int .u8)).toArray w:=by
      have:=run_loadCells_list (P:=P) w ad (((bs.take m).map fun b=>(b.toNat:Int)).map (Value.int .u8)) (by
        intro j u hu
        simp only [List.map_map,List.getElem?_map] at hu
        cases hb:(bs.take m)[j]? with
        | none=>rw [hb] at hu; cases hu
        | some b =>
          rw [hb] at hu
          simp only [Option.map_some,Option.some.injEq] at hu
          subst hu
          rw [List.getElem?_take] at hb
          split at hb
          · obtain ⟨ad',h1,_,h2⟩:=hr.at_ (bcs_get hb)
            injection h1 with h1; subst h1
            have:=h2 0 (bc b) rfl
            simpa [bc,add_add] using this
          · cases hb)
      simpa [Nat.min_eq_left hm] using this
    rw [run_bytesToString w ad m c _ hl,push_all]
    simp [tx]
theorem RL.s2b {src dst e:TypeId} {s:ByteArray} {dd:Nat} (hs:P.underlying src = some .string) (hd:P.underlying dst = some (.slice e)) (he:P.underlying e = some (.int .u8)) (hx:ev ρ x = .string s)
    (hg:gd ops ρ ⟨some dd,.convert src dst x,ty,ps,af,gu⟩ = true) (hN:Nat.blt dd N = true)
    (h : ∀ w' b c, b = w.heap.size → w'.heap.size = w.heap.size + 1 → w.grownBy w' none → Rd w' (b + 1) 1 (some ⟨b, 0, none⟩) (Df s.data.toList) → s.size ≤ c → RL P N ops Q rest (upd ρ dd (.slice (some ⟨b, 0, none⟩) s.size c)) w') :
    RL P N ops Q (⟨some dd,.convert src dst x,ty,ps,af,gu⟩ :: rest) ρ w:=by
  refine aN (w':=Lib.bytesWorld w e s) Z hg hN ?_ (h _ w.heap.size (grownCap w s.size 0 e) Z (Lib.bytesWorld_size w e s) ⟨Z,rfl,rfl,by rw [Lib.bytesWorld_size]; omega,fun k hk _=>Lib.bytesWorld_at_old w e s k hk⟩ ?_ (grownCap_ge w s.size 0 e))
  · unfold Ex; refine Cc ?_
    rw [hx]
    exact Lib.run_convert_string_bytes w src dst e s hs hd he
  · refine ⟨by simp [Df],fun _=>⟨_,rfl,by simp,fun i x hx j u hu=>?_⟩⟩
    simp only [Df,List.getElem?_map] at hx
    cases hb:s.data.toList[i]? with
    | none=>rw [hb] at hx; cases hx
    | some b =>
      rw [hb] at hx
      simp only [Option.map_some,Option.some.injEq] at hx
      subst hx
      cases j with
      | succ j=>simp at hu
      | zero =>
        simp at hu
        subst hu
        obtain ⟨hi,hb'⟩:=List.getElem?_eq_some_iff.1 hb
        rw [add_add,add_lit,Lib.bytesWorld_cell w e s _ (by simpa using hi)]
        simp only [Nat.zero_add,Nat.add_zero,Nat.mul_one,List.getD_eq_getElem?_getD,hb,bc]
        rfl
theorem tx_size (l:List UInt8):(tx l).size = l.length:=rfl
theorem RL.s2bT {src dst e:TypeId} {l:List UInt8} {dd:Nat} (hs:P.underlying src = some .string) (hd:P.underlying dst = some (.slice e)) (he:P.underlying e = some (.int .u8)) (hx:ev ρ x = .string (tx l))
    (hg:gd ops ρ ⟨some dd,.convert src dst x,ty,ps,af,gu⟩ = true) (hN:Nat.blt dd N = true)
    (h : ∀ w' b c, b = w.heap.size → w'.heap.size = w.heap.size + 1 → w.grownBy w' none → Rd w' (b + 1) 1 (some ⟨b, 0, none⟩) (Df l) → l.length ≤ c → RL P N ops Q rest (upd ρ dd (.slice (some ⟨b, 0, none⟩) l.length c)) w') :
    RL P N ops Q (⟨some dd,.convert src dst x,ty,ps,af,gu⟩ :: rest) ρ w :=
  RL.s2b hs hd he hx hg hN fun w' b c h1 h2 h3 h4 h5=>h w' b c h1 h2 h3 (by simpa [tx] using h4) h5
theorem RL.dfr {fn:Fn} {fs caps:Array Value} {tys:Array TypeId} (hx:ev ρ x = .func fn fs caps) (hD:dfr (ρ DS) = [])
    (hg:gd ops ρ ⟨none,.defer ⟨.value x, #[],tys⟩,ty,ps,af,gu⟩ = true)
    (h:RL P N ops Q rest (upd ρ DS (.func fn fs caps)) w):RL P N ops Q (⟨none,.defer ⟨.value x, #[],tys⟩,ty,ps,af,gu⟩ :: rest) ρ w:=fun a ha=>by
  unfold wpList
  rw [ha.wanted,hg,if_pos rfl]
  refine .inl ?_
  unfold Oper.wp
  rw [ha.eval]
  have he:(execOp (ev ρ) ⟨none,.defer ⟨.value x, #[],tys⟩,ty,ps,af,gu⟩).run P w = .ok (.defer { target:=.fn fn caps,args:=fs }) w:=by
    simp [execOp,resolve,hx,Deferred.ofValue]
  rw [he,Oper.upon_defer]
  refine h _ ⟨?_,ha.size,fun t=>?_,ha.sm⟩
  · show { target:=Target.fn fn caps,args:=fs } :: a.defers = Eng.dfr (upd ρ DS (.func fn fs caps) DS)
    rw [ha.nd,hD]
    simp [upd,Eng.dfr]
  · show a.tmps.getD t undef = gt (upd ρ DS (.func fn fs caps)) t
    rw [ha.at_]
    unfold gt upd
    cases hb:Nat.beq t DS <;> rfl
def finD (P:Program) (N:Nat) (fn:Func) (R:Value → World → Prop):Exit → Da → World → Prop
  | .normal, ρ, w => ∀ a, EQ N a ρ → Leaves P fn a.tmps (fun e w' => ∃ v, e = .returned v ∧ R v w') a.defers .returning w
  | .ret, ρ, w => ∀ a, EQ N a ρ → Leaves P fn a.tmps (fun e w' => ∃ v, e = .returned v ∧ R v w') a.defers .returning w
  | .panic ch, ρ, w => ∀ a, EQ N a ρ → Leaves P fn a.tmps (fun e w' => ∃ v, e = .returned v ∧ R v w') a.defers (.panicking ch) w
  | _,_,_=>False
theorem Ret.bodyD {f:FuncId} {fn:Func} {c:Code} {args:List Value} {R:Value → World → Prop} (hf:P.funcs[f]? = some fn) (hb:fn.body = some c) (hN:fn.ntmps = N)
    (hs:(Nat.ble args.length N && Nat.ble N DS) = true) (h:CW P N c (finD P N fn R) (ini args) w):Ret P f args w R:=by
  subst hN
  refine calls_of_wp_defers hf hb (wp_mono (h _ (EQ.ini hs)) ?_)
  rintro e a w' ⟨ρ,h1,h2⟩
  cases e with
  | normal=>exact h2 a h1
  | ret=>exact h2 a h1
  | panic ch=>exact h2 a h1
  | _=>exact h2.elim
theorem finD.q {fn:Func} {R R1:Value → World → Prop} {g:FuncId} {caps:List Value} (hD:ρ DS = .func (.func g) #[] caps.toArray) (hc : ∀ (args:Array Value) (w:World),(callFunc g args).run P w = .ok (.enter g args) w)
    (hcall : CallsD P g caps.toArray .returning w fun e u' w' => (∃ v, e = .returned v ∧ R1 v w') ∧ u' = .returning)
    (hk : ∀ v1 w', R1 v1 w' → ∃ v, (∀ a, EQ N a ρ → (results fn a.tmps).run P w' = .ok v w') ∧ R v w') (a : Act) (ha : EQ N a ρ) :
    Leaves P fn a.tmps (fun e w' => ∃ v, e = .returned v ∧ R v w') a.defers .returning w := by
  rw [ha.nd,hD]
  refine ⟨by simp,_,_,g,caps.toArray,rfl,by simpa [invoke] using hc caps.toArray w,hcall.mono ?_⟩
  rintro e u' w' ⟨⟨v1,rfl,h1⟩,rfl⟩
  obtain ⟨v,h2,h3⟩:=hk v1 w' h1
  exact ⟨v,h2 a ha,v,rfl,h3⟩
theorem finD.p {fn:Func} {R R1:Value → World → Prop} {g:FuncId} {caps:List Value} {tv:TypeId × Value} (hD:ρ DS = .func (.func g) #[] caps.toArray) (hc : ∀ (args:Array Value) (w:World),(callFunc g args).run P w = .ok (.enter g args) w)
    (hcall : CallsD P g caps.toArray (.panicking [{ v := .iface tv.1 tv.2, recovered := false }]) w fun e u' w' => (∃ v, e = .returned v ∧ R1 v w') ∧ u' = .panicking [{ v := .iface tv.1 tv.2, recovered := true }])
    (hk : ∀ v1 w', R1 v1 w' → ∃ v, (∀ a, EQ N a ρ → (results fn a.tmps).run P w' = .ok v w') ∧ R v w') : finD P N fn R (.panic [{ v := .iface tv.1 tv.2, recovered := false }]) ρ w := by
  intro a ha
  rw [ha.nd,hD]
  refine ⟨by simp,_,_,g,caps.toArray,rfl,by simpa [invoke] using hc caps.toArray w,hcall.mono ?_⟩
  rintro e u' w' ⟨⟨v1,rfl,h1⟩,rfl⟩
  obtain ⟨v,h2,h3⟩:=hk v1 w' h1
  exact ⟨v,h2 a ha,v,rfl,h3⟩
theorem Ex.neI {ms:Array (String × TypeId)} {tt:TypeId} {pv:Value} (ht:P.underlying t = some (.interface ms)) (hx:ev ρ x = .iface tt pv) (hy:ev ρ y = .nilIface):Ex P ρ ⟨d,.binOp .neq t x y t',ty,ps,af,gu⟩ w (.bool true) w:=by
  unfold Ex; refine Cc ?_
  have e:Op.maxDepth = (Op.maxDepth - 1) + 1:=rfl
  have h:(Op.equalIn Op.maxDepth t (.iface tt pv) .nilIface).run P w = .ok false w:=by
    rw [e,Op.equalIn]; simp [run_underlying ht]
  simp [hx,hy,eqGuard,binOp,Op.equal,h]
theorem CallsD.rec {f:FuncId} {fn:Func} {c y:Code} {args:List Value} {R:Value → World → Prop} {id d1 d2:Nat} {ty1 ty2:TypeId} {ps1 ps2:String} {af1 af2:Array Edge} {tv:TypeId × Value} (hf:P.funcs[f]? = some fn) (hb:fn.body = some c)
    (hcode:c = .seq (.region id #[⟨some d1,.call ⟨.builtin .recover, #[], #[]⟩,ty1,ps1,af1,none⟩,⟨some d2,.assign (.tmp d1),ty2,ps2,af2,none⟩] false) y) (hN:fn.ntmps = N)
    (hs:(Nat.ble args.length N && Nat.ble N DS) = true) (h1:Nat.blt d1 N = true) (h2:Nat.blt d2 N = true)
    (h:CW P N y (finQ P N fn R) (upd (upd (ini args) d1 (.iface tv.1 tv.2)) d2 (.iface tv.1 tv.2)) w) :
    CallsD P f args.toArray (.panicking [{ v := .iface tv.1 tv.2, recovered := false }]) w fun e u' w' => (∃ v, e = .returned v ∧ R v w') ∧ u' = .panicking [{ v := .iface tv.1 tv.2, recovered := true }] := by
  subst hN; subst hcode
  refine callsD_of_wpS hf hb fun c₀ cs hu=>?_
  apply wpS_seq
  apply wpS_region
  have E0:=EQ.ini (N:=fn.ntmps) (args:=args) hs
  have E1:=E0.put h1 (.iface tv.1 tv.2)
  have E2:=E1.put h2 (.iface tv.1 tv.2)
  have hr:List.range 2 = [0,1]:=rfl
  have e1:=E1.at_ d1
  have hg1:gt (upd (Eng.ini args) d1 (.iface tv.1 tv.2)) d1 = .iface tv.1 tv.2:=by
    have hne:Nat.beq d1 DS = false:=by
      cases hx:Nat.beq d1 DS with
      | false=>rfl
      | true => have := Nat.eq_of_beq_eq_true hx; have h3 := E0.sm; have h4 : d1 < fn.ntmps := by simpa using h1
                omega
    unfold gt upd
    rw [hne,Nat.beq_refl]; rfl
  rw [hg1] at e1
  have hwant1:Region.wanted (⟨some d2,.assign (.tmp d1),ty2,ps2,af2,none⟩:Oper) = fun _=>true:=by funext _; rfl
  have hwant0:Region.wanted (⟨some d1,.call ⟨.builtin .recover, #[], #[]⟩,ty1,ps1,af1,none⟩:Oper) = fun _=>true:=by funext _; rfl
  have hx1:(execOp (Act.eval { tmps:=args.toArray ++ Array.replicate (fn.ntmps - args.toArray.size) undef,defers:=[] }) ⟨some d1,.call ⟨.builtin .recover, #[], #[]⟩,ty1,ps1,af1,none⟩).run P w = .ok .recover w:=by
    simp [execOp,resolve,invoke,builtin]
  have hx2:(execOp (Act.eval (Act.put { tmps:=args.toArray ++ Array.replicate (fn.ntmps - args.toArray.size) undef,defers:=[] } (some d1) (.iface tv.1 tv.2))) ⟨some d2,.assign (.tmp d1),ty2,ps2,af2,none⟩).run P w = .ok (.value (.iface tv.1 tv.2)) w:=by
    rw [E1.eval]
    show (pure (Next.value (gt _ d1)):Sem Next).run P w = _
    rw [hg1]; rfl
  show wpOpsS P _ _ (List.range 2) _ _ _
  rw [hr]
  simp only [wpOpsS]
  rw [show (#[(⟨some d1,.call ⟨.builtin .recover, #[], #[]⟩,ty1,ps1,af1,none⟩:Oper),⟨some d2,.assign (.tmp d1),ty2,ps2,af2,none⟩])[0]? = some ⟨some d1,.call ⟨.builtin .recover, #[], #[]⟩,ty1,ps1,af1,none⟩ from rfl,
    show (#[(⟨some d1,.call ⟨.builtin .recover, #[], #[]⟩,ty1,ps1,af1,none⟩:Oper),⟨some d2,.assign (.tmp d1),ty2,ps2,af2,none⟩])[1]? = some ⟨some d2,.assign (.tmp d1),ty2,ps2,af2,none⟩ from rfl]
  simp only [hwant0,hwant1,if_true,hx1,recoverD,hu,hx2,Oper.upon_value,Exit.thenS]
  refine wpS_of_wp (wp_mono (h _ E2) ?_)
  rintro e a w' ⟨ρ,g1,g2⟩
  cases e with
  | normal=>obtain ⟨v,hv,hR,hd⟩:=g2; exact ⟨g1.nd.trans hd,_,rfl,v,hv a g1,⟨v,rfl,hR⟩,rfl⟩
  | ret=>obtain ⟨v,hv,hR,hd⟩:=g2; exact ⟨g1.nd.trans hd,_,rfl,v,hv a g1,⟨v,rfl,hR⟩,rfl⟩
  | _=>exact g2.elim
theorem CallsD.idle {f:FuncId} {fn:Func} {c y:Code} {args:List Value} {R:Value → World → Prop} {id d1 d2:Nat} {ty1 ty2:TypeId} {ps1 ps2:String} {af1 af2:Array Edge} (hf:P.funcs[f]? = some fn) (hb:fn.body = some c)
    (hcode:c = .seq (.region id #[⟨some d1,.call ⟨.builtin .recover, #[], #[]⟩,ty1,ps1,af1,none⟩,⟨some d2,.assign (.tmp d1),ty2,ps2,af2,none⟩] false) y) (hN:fn.ntmps = N)
    (hs:(Nat.ble args.length N && Nat.ble N DS) = true) (h1:Nat.blt d1 N = true) (h2:Nat.blt d2 N = true)
    (h:CW P N y (finQ P N fn R) (upd (upd (ini args) d1 .nilIface) d2 .nilIface) w) :
    CallsD P f args.toArray .returning w fun e u' w' => (∃ v, e = .returned v ∧ R v w') ∧ u' = .returning := by
  subst hN; subst hcode
  refine callsD_of_wpS hf hb fun c₀ cs hu=>?_
  apply wpS_seq
  apply wpS_region
  have E0:=EQ.ini (N:=fn.ntmps) (args:=args) hs
  have E1:=E0.put h1 .nilIface
  have E2:=E1.put h2 .nilIface
  have hr:List.range 2 = [0,1]:=rfl
  have hg1:gt (upd (Eng.ini args) d1 .nilIface) d1 = .nilIface:=by
    have hne:Nat.beq d1 DS = false:=by
      cases hx:Nat.beq d1 DS with
      | false=>rfl
      | true => have := Nat.eq_of_beq_eq_true hx; have h3 := E0.sm; have h4 : d1 < fn.ntmps := by simpa using h1
                omega
    unfold gt upd
    rw [hne,Nat.beq_refl]; rfl
  have hwant1:Region.wanted (⟨some d2,.assign (.tmp d1),ty2,ps2,af2,none⟩:Oper) = fun _=>true:=by funext _; rfl
  have hwant0:Region.wanted (⟨some d1,.call ⟨.builtin .recover, #[], #[]⟩,ty1,ps1,af1,none⟩:Oper) = fun _=>true:=by funext _; rfl
  have hx1:(execOp (Act.eval { tmps:=args.toArray ++ Array.replicate (fn.ntmps - args.toArray.size) undef,defers:=[] }) ⟨some d1,.call ⟨.builtin .recover, #[], #[]⟩,ty1,ps1,af1,none⟩).run P w = .ok .recover w:=by
    simp [execOp,resolve,invoke,builtin]
  have hx2:(execOp (Act.eval (Act.put { tmps:=args.toArray ++ Array.replicate (fn.ntmps - args.toArray.size) undef,defers:=[] } (some d1) .nilIface)) ⟨some d2,.assign (.tmp d1),ty2,ps2,af2,none⟩).run P w = .ok (.value .nilIface) w:=by
    rw [E1.eval]
    show (pure (Next.value (gt _ d1)):Sem Next).run P w = _
    rw [hg1]; rfl
  show wpOpsS P _ _ (List.range 2) _ _ _
  rw [hr]
  simp only [wpOpsS]
  rw [show (#[(⟨some d1,.call ⟨.builtin .recover, #[], #[]⟩,ty1,ps1,af1,none⟩:Oper),⟨some d2,.assign (.tmp d1),ty2,ps2,af2,none⟩])[0]? = some ⟨some d1,.call ⟨.builtin .recover, #[], #[]⟩,ty1,ps1,af1,none⟩ from rfl,
    show (#[(⟨some d1,.call ⟨.builtin .recover, #[], #[]⟩,ty1,ps1,af1,none⟩:Oper),⟨some d2,.assign (.tmp d1),ty2,ps2,af2,none⟩])[1]? = some ⟨some d2,.assign (.tmp d1),ty2,ps2,af2,none⟩ from rfl]
  simp only [hwant0,hwant1,if_true,hx1,recoverD,hu,hx2,Oper.upon_value,Exit.thenS]
  have hc0:c₀ = { c₀ with mode:=.returning } := by cases c₀; simp_all
  refine wpS_of_wp (wp_mono (h _ E2) ?_)
  rintro e a w' ⟨ρ,g1,g2⟩
  cases e with
  | normal=>obtain ⟨v,hv,hR,hd⟩:=g2; exact ⟨g1.nd.trans hd,.returning,by rw [← hc0],v,hv a g1,⟨v,rfl,hR⟩,rfl⟩
  | ret=>obtain ⟨v,hv,hR,hd⟩:=g2; exact ⟨g1.nd.trans hd,.returning,by rw [← hc0],v,hv a g1,⟨v,rfl,hR⟩,rfl⟩
  | _=>exact g2.elim
theorem Ex.neN (hx:ev ρ x = .nilIface) (hy:y = .const .nilIface) {ms:Array (String × TypeId)} (ht:P.underlying t = some (.interface ms)):Ex P ρ ⟨d,.binOp .neq t x y t',ty,ps,af,gu⟩ w (.bool false) w:=by
  subst hy
  unfold Ex; refine Cc ?_
  have e:Op.maxDepth = (Op.maxDepth - 1) + 1:=rfl
  have h:(Op.equalIn Op.maxDepth t .nilIface .nilIface).run P w = .ok true w:=by
    rw [e,Op.equalIn]; simp [run_underlying ht]
  have h2:ev ρ (.const .nilIface) = .nilIface:=rfl
  simp [hx,h2,eqGuard,binOp,Op.equal,h]
theorem Ex.eqSl0 {e : TypeId} {n c n' c' : Nat} {A : Option Addr} {r : Bool} (ht : P.underlying t = some (.slice e)) (hx : ev ρ x = .slice A n c) (hy : ev ρ y = .slice none n' c') (hr : A.isNone = r) : Ex P ρ ⟨d, .binOp .eql t x y t', ty, ps, af, gu⟩ w (.bool r) w := by
  subst hr
  unfold Ex; refine Cc ?_
  have e:Op.maxDepth = (Op.maxDepth - 1) + 1:=rfl
  have h : (Op.equalIn Op.maxDepth t (.slice A n c) (.slice none n' c')).run P w = .ok A.isNone w := by
    rw [e,Op.equalIn]; cases A <;> simp [run_underlying ht]
  simp [hx,hy,eqGuard,binOp,Op.equal,h]
theorem cI {e:TypeId} {a b:Addr} {len i k:Nat} {I:Int} (ht:P.underlying t = some (.array len e)) (hs : ∀ w:World,(sizeOf e).run P w = .ok k w) (hx:ev ρ x = .pointer (some a)) (hy:ev ρ y = .int .i64 I) (hI:I = (i:Int)) (hi:Nat.blt i len = true)
    (hb:a.add (i * k) = b):Ex P ρ ⟨d,.indexAddr t x y,ty,ps,af,gu⟩ w (.pointer (some b)) w:=by
  subst hb; subst hI
  have hi':i < len:=by simpa using hi
  unfold Ex; refine Cc ?_
  simp [Instr.indexAt,Instr.sureAddr,hx,hy,asIntOf,run_underlying ht,hs,hi']
theorem Ex.slA {e:TypeId} {a:Addr} {len k:Nat} (ht:P.underlying t = some (.array len e)) (hs : ∀ w:World,(sizeOf e).run P w = .ok k w) (hx:ev ρ x = .pointer (some a)) (hl:Nat.blt 0 len = true) :
    Ex P ρ ⟨d,.slice t x none none none,ty,ps,af,gu⟩ w (.slice (some a) len len) w:=by
  have hl' : len ≠ 0 := by have : 0 < len := by simpa using hl
                           omega
  unfold Ex; refine Cc ?_
  simp [Instr.sliceAt,Instr.sliceBounds,Instr.sureAddr,hx,run_underlying ht,hs,hl',Addr.add]
theorem RL.bs0 {e k dd:Nat} (ht:P.underlying t = some (.slice e)) (hs : ∀ w:World,(sizeOf e).run P w = .ok k w)
    (hg:gd ops ρ ⟨some dd,.buildSlice t 0 #[],ty,ps,af,gu⟩ = true) (hN:Nat.blt dd N = true)
    (h : ∀ w' b, b = w.heap.size → w'.heap.size = w.heap.size + 1 → w.grownBy w' none → Ow w' w.heap.size e k (some ⟨b, 0, none⟩) 0 [] → RL P N ops Q rest (upd ρ dd (.slice (some ⟨b, 0, none⟩) 0 0)) w') :
    RL P N ops Q (⟨some dd,.buildSlice t 0 #[],ty,ps,af,gu⟩ :: rest) ρ w:=by
  refine aN (w':=w.alloc (.cells #[] e)) Z hg hN ?_ (h _ w.heap.size Z (by simp) (World.grownBy_alloc w _ none) ⟨World.ownsRow_made w #[] 0 (Nat.le_refl _) (Nat.zero_le _) (by simp),by simp⟩)
  unfold Ex; refine Cc ?_
  have e0 : ∀ f:Nat → Value,Array.map f (Array.range 0) = #[]:=fun f=>by apply Array.ext'; simp
  simp [Instr.buildSlice,run_underlying ht,hs,Instr.fill,newRow,e0]
def CL (P:Program) (N:Nat) (c:Code) (Q:Exit → Da → World → Prop) (ρ:Da) (w:World):Prop :=
  ∀ a,EQ N a ρ → ∀ (b:Frame) (k:List Item) (cs:List Frame), ∃ e a' w',lft N Q e a' w'∧Arrives P (lone (b.at a (.code c :: .inLoop c :: k)) cs w) b k cs e a' w'
theorem cJ {c:Code} (h:CL P N c Q ρ w):CW P N (.loop c) Q ρ w:=fun a ha b k cs =>
  let ⟨e,a',w',hq,harr⟩:=h a ha b k cs
  ⟨e,a',w',hq,.of_steps (.one step_loop) harr⟩
theorem Dd {c:Code} (h:CW P N c (thn (CL P N c Q) Q) ρ w):CL P N c Q ρ w:=by
  intro a ha b k cs
  obtain ⟨e,a₁,w₁,⟨ρ₁,h1,h2⟩,harr⟩:=h a ha b (.inLoop c :: k) cs
  cases e with
  | normal =>
    obtain ⟨e₂,a₂,w₂,hq₂,harr₂⟩:=h2 a₁ h1 b k cs
    exact ⟨e₂,a₂,w₂,hq₂,.of_steps (Steps.trans harr (.one step_inLoop)) harr₂⟩
  | exit id=>exact ⟨_,a₁,w₁,⟨ρ₁,h1,h2⟩,.pass (x:=.inLoop c) rfl (fun _ _=>.inl (by simp)) harr⟩
  | goto l=>exact ⟨_,a₁,w₁,⟨ρ₁,h1,h2⟩,.pass (x:=.inLoop c) rfl (fun _ _=>.inl (by simp)) harr⟩
  | ret=>exact ⟨_,a₁,w₁,⟨ρ₁,h1,h2⟩,.pass (x:=.inLoop c) rfl (fun _ _=>.inl (by simp)) harr⟩
  | panic ch=>exact ⟨_,a₁,w₁,⟨ρ₁,h1,h2⟩,.pass (x:=.inLoop c) rfl (fun _ _=>.inl (by simp)) harr⟩
  | outgrown=>exact ⟨_,a₁,w₁,⟨ρ₁,h1,h2⟩,.pass (x:=.inLoop c) rfl (fun _ _=>.inl (by simp)) harr⟩
theorem Ob.rdI {T b off:Nat} {cs:List Value} {l:List Int} (h:Ob w b T cs) (hl:(cs.drop off).take l.length = l.map (Value.int .i64)):Rd w (b + 1) 1 (some ⟨b,off,none⟩) (ics l):=by
  refine ⟨by simp [ics],fun _=>⟨_,rfl,by simp,fun i x hx j u hu=>?_⟩⟩
  simp only [ics,List.getElem?_map] at hx
  cases hb:l[i]? with
  | none=>rw [hb] at hx; cases hx
  | some n =>
    rw [hb] at hx
    simp only [Option.map_some,Option.some.injEq] at hx
    subst hx
    cases j with
    | succ j=>simp at hu
    | zero =>
      simp at hu
      subst hu
      rw [add_add,add_lit,Nat.mul_one,Nat.add_zero]
      refine h.cell ?_
      have hi:i < l.length:=(List.getElem?_eq_some_iff.1 hb).1
      have h3:((cs.drop off).take l.length)[i]? = (l.map (Value.int .i64))[i]? := by rw [hl]
      rw [List.getElem?_take_of_lt hi,List.getElem?_drop,List.getElem?_map,hb] at h3
      exact h3
end
end Go.Eng
namespace Go.Eng
open Go Go.RowKit
def pt (cs:List Value) (o:Nat) (ys:List Value):List Value:=cs.take o ++ ys ++ cs.drop (o + ys.length)
theorem pt_length {cs ys:List Value} {o:Nat} (h:o + ys.length ≤ cs.length):(pt cs o ys).length = cs.length:=by
  simp [pt]; omega
theorem pt_get {cs ys:List Value} {o i:Nat} (h:o + ys.length ≤ cs.length):(pt cs o ys)[i]? = if i < o then cs[i]? else if i < o + ys.length then ys[i - o]? else cs[i]? := by
  unfold pt
  have hl:(cs.take o).length = o:=by rw [List.length_take]; omega
  split
  · rename_i h1
    rw [List.append_assoc,List.getElem?_append_left (by omega),List.getElem?_take_of_lt h1]
  · rename_i h1
    split
    · rename_i h2
      rw [List.getElem?_append_left (by rw [List.length_append]; omega),List.getElem?_append_right (by omega),hl]
    · rename_i h2
      rw [List.getElem?_append_right (by rw [List.length_append]; omega),List.getElem?_drop,List.length_append,hl]
      congr 1; omega
section
variable {P:Program} {N:Nat} {Q Q':Exit → Da → World → Prop} {ρ:Da} {w:World} {ops rest:List Oper} {d:Option Tmp} {ty:TypeId} {ps:String} {af:Array Edge} {gu:Option (Nat × Bool)}
variable {x y z:Operand} {v u:Value} {t t' ty':TypeId}
structure Src (P:Program) (w:World) (k:Nat) (v:Value) (m:Nat) (ys:List Value):Prop where
  len:ys.length = m * k
  val : ∃ A c,v = .slice A m c
  rd : ∀ w':World,w'.heap = w.heap → ∀ n,n ≤ m → (Builtin.firstCells k n v).run P w' = .ok (ys.take (n * k)).toArray w'
theorem cell_heap {w w':World} (h:w'.heap = w.heap) (a:Addr):w'.cell? a = w.cell? a:=by simp [World.cell?,h]
theorem Src.ob {w:World} {g T off m k c:Nat} {cs ys:List Value} (ho:Ob w g T cs) (hy:(cs.drop off).take (m * k) = ys) (hl:off + m * k ≤ cs.length):Src P w k (.slice (some ⟨g,off,none⟩) m c) m ys:=by
  have hyl:ys.length = m * k:=by rw [← hy,List.length_take,List.length_drop]; omega
  refine ⟨hyl,⟨_,_,rfl⟩,fun w' hw n hn=>?_⟩
  have hnk:n * k ≤ m * k:=Nat.mul_le_mul_right k hn
  refine run_firstCells_some w' k n _ m c _ (by rw [List.length_take]; omega) (fun j v hv=>?_)
  rw [List.getElem?_take] at hv
  split at hv
  · rw [← hy,List.getElem?_take] at hv
    split at hv
    · rw [List.getElem?_drop] at hv
      rw [cell_heap hw,add_lit]
      exact ho.cell hv
    · cases hv
  · cases hv
theorem Src.rd_ {w:World} {B k m c:Nat} {A:Option Addr} {yss:List (List Value)} (hr:Rd w B k A yss) (hm:m = yss.length):Src P w k (.slice A m c) m yss.flatten:=by
  subst hm
  have hflat:yss.flatten.length = yss.length * k:=by
    have hall:=hr.1
    clear hr
    induction yss with
    | nil=>simp
    | cons y ys ih=>simp only [List.flatten_cons,List.length_append,List.length_cons,hall y (by simp),ih (fun x hx=>hall x (by simp [hx])),Nat.add_mul,Nat.one_mul]; omega
  refine ⟨hflat,⟨_,_,rfl⟩,fun w' hw n hn=>?_⟩
  have hnk:n * k ≤ yss.length * k:=Nat.mul_le_mul_right k hn
  rcases A with _ | ad
  · have hn0:yss = []:=by
      rcases yss with _ | ⟨y,ys⟩
      · rfl
      · obtain ⟨ad,h,_⟩:=hr.2 (by simp); cases h
    subst hn0
    simp [run_firstCells_none]
  · refine run_firstCells_some w' k n ad _ c _ (by rw [List.length_take]; omega) (fun j u hu=>?_)
    rw [cell_heap hw]
    rw [List.getElem?_take] at hu
    split at hu
    · rcases yss with _ | ⟨y,ys⟩
      · simp at hu
      · obtain ⟨ad',h',hb',hc'⟩:=hr.2 (by simp)
        injection h' with h'; subst h'
        have hall:=hr.1
        have gen : ∀ (zs:List (List Value)) (o:Nat),(∀ x ∈ zs,x.length = k) → (∀ i x,zs[i]? = some x → Cl w (ad.add ((o + i) * k)) x) → ∀ j u,zs.flatten[j]? = some u → w.cell? (ad.add (o * k + j)) = some u:=by
          intro zs
          induction zs with
          | nil=>intro o _ _ j u hu; simp at hu
          | cons z zs ih =>
            intro o hl hc j u hu
            have hz0:=hl z (by simp)
            simp only [List.flatten_cons] at hu
            rcases Nat.lt_or_ge j z.length with hj | hj
            · rw [List.getElem?_append_left hj] at hu
              have:=hc 0 z (by simp) j u hu
              rwa [Nat.add_zero,add_add] at this
            · rw [List.getElem?_append_right hj] at hu
              have:=ih (o + 1) (fun x hx=>hl x (by simp [hx])) (fun i x hx=>by have:=hc (i + 1) x (by simpa using hx); rwa [show o + (i + 1) = o + 1 + i by omega] at this) (j - z.length) u hu
              rwa [show (o + 1) * k + (j - z.length) = o * k + j by rw [hz0,Nat.add_mul]; omega] at this
        have:=gen (y :: ys) 0 hall (fun i x hx=>by rw [Nat.zero_add]; exact hc' i x hx) j u hu
        simpa using this
    · cases hu
theorem store_ob {g T o:Nat} {cs ys:List Value} (ho:Ob w g T cs) (hl:o + ys.length ≤ cs.length) (h1 : ∀ u ∈ ys,u.oneCell' = true) :
    ∃ w',(storeCells ⟨g,o,none⟩ ys).run P w = .ok () w'∧w'.heap.size = w.heap.size∧w.grownBy w' (some g)∧Ob w' g T (pt cs o ys):=by
  have hst:=run_storeCells_at P g o T ys 0 cs.toArray w ho (by simpa using hl) h1
  simp only [Nat.add_zero] at hst
  refine ⟨_,hst,by simp [World.setRow],⟨Z,rfl,rfl,by simp [World.setRow],fun k _ hne=>?_⟩,setRow_heap w g _ _ T (0,0) ho⟩
  simp only [World.setRow,Array.getElem?_modify]
  rw [if_neg (by rintro rfl; exact hne rfl)]
theorem RL.cpy {e k g T o dl dc m dd:Nat} {cs ys:List Value} (ht:P.underlying t = some (.slice e)) (hs : ∀ w:World,(sizeOf e).run P w = .ok k w) (ho:Ob w g T cs) (hx:ev ρ x = .slice (some ⟨g,o,none⟩) dl dc) (hl:o + dl * k ≤ cs.length)
    (hy:Src P w k (ev ρ y) m ys) (hone : ∀ u ∈ ys.take (min m dl * k),u.oneCell' = true) (hg:gd ops ρ ⟨some dd,.call ⟨.builtin .copy, #[x,y], #[t,t']⟩,ty,ps,af,gu⟩ = true) (hN:Nat.blt dd N = true)
    (h : ∀ w', w'.heap.size = w.heap.size → w.grownBy w' (some g) → Ob w' g T (pt cs o (ys.take (min m dl * k))) → RL P N ops Q rest (upd ρ dd (.int .i64 (min m dl : Nat))) w') :
    RL P N ops Q (⟨some dd,.call ⟨.builtin .copy, #[x,y], #[t,t']⟩,ty,ps,af,gu⟩ :: rest) ρ w:=by
  obtain ⟨A,c,hv⟩:=hy.val
  have hmk:min m dl * k ≤ dl * k:=Nat.mul_le_mul_right k (Nat.min_le_right _ _)
  have hmk2:min m dl * k ≤ m * k:=Nat.mul_le_mul_right k (Nat.min_le_left _ _)
  obtain ⟨w',h1,h2,h3,h4⟩:=store_ob (P:=P) (o:=o) (ys:=ys.take (min m dl * k)) ho (by rw [List.length_take]; omega) hone
  refine aN (w' := w') Z hg hN ?_ (h w' h2 h3 h4)
  unfold Ex
  have hf:=hy.rd w rfl (min m dl) (Nat.min_le_left _ _)
  rw [hv] at hf
  have e1:Nat.min m dl = min m dl:=rfl
  simp only [execOp,resolve,invoke,builtin,Sem.run_bind,Sem.run_pure,Result.andThen_ok,List.map_toArray,List.map_cons,List.map_nil,hx,hv]
  simp [Builtin.copy_,run_underlying ht,hs,Builtin.lenOf,hf,e1,h1,goInt]
theorem RL.apR {e k g T o n c m bytes dd:Nat} {cs ys:List Value} (he:Elt P t e k bytes) (ho:Ob w g T cs) (hx:ev ρ x = .slice (some ⟨g,o,none⟩) n c) (hl:o + c * k ≤ cs.length) (hroom:n + m ≤ c)
    (hy:Src P w k (ev ρ y) m ys) (hone : ∀ u ∈ ys,u.oneCell' = true) (hg:gd ops ρ ⟨some dd,.call ⟨.builtin .append, #[x,y], #[t,t]⟩,ty,ps,af,gu⟩ = true) (hN:Nat.blt dd N = true)
    (h : ∀ w', w'.heap.size = w.heap.size → w.grownBy w' (some g) → Ob w' g T (pt cs (o + n * k) ys) → RL P N ops Q rest (upd ρ dd (.slice (some ⟨g, o, none⟩) (n + m) c)) w') :
    RL P N ops Q (⟨some dd,.call ⟨.builtin .append, #[x,y], #[t,t]⟩,ty,ps,af,gu⟩ :: rest) ρ w:=by
  obtain ⟨A,c2,hv⟩:=hy.val
  obtain ⟨i,z,hi,hz,hsize,hby,hzs⟩:=he.inf
  have hck:n * k + m * k ≤ c * k:=by rw [← Nat.add_mul]; exact Nat.mul_le_mul_right k hroom
  obtain ⟨w',h1,h2,h3,h4⟩:=store_ob (P:=P) (o:=o + n * k) (ys:=ys) ho (by rw [hy.len]; omega) hone
  refine aN (w' := w') Z hg hN ?_ (h w' h2 h3 h4)
  unfold Ex
  have hf:=hy.rd w rfl m (Nat.le_refl _)
  rw [hv,List.take_of_length_le (by rw [hy.len]; exact Nat.le_refl _)] at hf
  simp only [execOp,resolve,invoke,builtin,Sem.run_bind,Sem.run_pure,Result.andThen_ok,List.map_toArray,List.map_cons,List.map_nil,hx,hv]
  simp [Builtin.append_,run_underlying he.ty,sizeOf,typeInfo,hi,hsize,Builtin.lenOf,hroom,hf,add_lit,h1]
theorem RL.apG {e k n c m bytes dd:Nat} {A:Option Addr} {xs ys:List Value} (he:Elt P t e k bytes) (hx:ev ρ x = .slice A n c) (hxs:Src P w k (.slice A n c) n xs) (hroom:c < n + m)
    (hy:Src P w k (ev ρ y) m ys) (hmax:n + m ≤ 9223372036854775807) (hsz:(n + m) * bytes ≤ 140737488355328)
    (hg:gd ops ρ ⟨some dd,.call ⟨.builtin .append, #[x,y], #[t,t]⟩,ty,ps,af,gu⟩ = true) (hN:Nat.blt dd N = true)
    (h : ∀ w' b c' zs, b = w.heap.size → w'.heap.size = w.heap.size + 1 → w.grownBy w' none → n + m ≤ c' → c' ≤ maxLen → zs.length = (c' - (n + m)) * k → Ob w' b e (xs ++ ys ++ zs) → RL P N ops Q rest (upd ρ dd (.slice (some ⟨b, 0, none⟩) (n + m) c')) w') :
    RL P N ops Q (⟨some dd,.call ⟨.builtin .append, #[x,y], #[t,t]⟩,ty,ps,af,gu⟩ :: rest) ρ w:=by
  obtain ⟨A2,c2,hv⟩:=hy.val
  obtain ⟨i,z,hi,hz,hsize,hby,hzs⟩:=he.inf
  have hf:=hy.rd w.drew rfl m (Nat.le_refl _)
  rw [hv,List.take_of_length_le (by rw [hy.len]; exact Nat.le_refl _)] at hf
  have hfo:=hxs.rd w.drew rfl n (Nat.le_refl _)
  rw [List.take_of_length_le (by rw [hxs.len]; exact Nat.le_refl _)] at hfo
  have hn : ¬ (n + m ≤ c):=by omega
  have h63' : ¬ (9223372036854775807 < ((n:Int) + (m:Int))):=by omega
  have h48:Builtin.nextslicecap (n + m) c * i.bytes ≤ 281474976710656:=growslice_fits (by omega) (by rw [hby]; exact hsz)
  have h48' : ¬ (281474976710656 < Builtin.nextslicecap (n + m) c * i.bytes):=by omega
  refine aN (w':=w.drew.alloc (.cells (xs.toArray ++ ys.toArray ++ Builtin.zeroCells z.cells (grownCap w (n + m) c e - (n + m))) e)) Z hg hN ?_
    (h _ w.heap.size (grownCap w (n + m) c e) (Builtin.zeroCells z.cells (grownCap w (n + m) c e - (n + m))).toList rfl (by simp) ⟨rfl,rfl,rfl,by simp,fun j hj _=>Go.heap_alloc_old w.drew _ hj⟩ (grownCap_ge w _ _ _) (grownCap_le_maxLen w _ _ _ (by simp only [maxLen]; omega)) (by simp [size_zeroCells,hzs]) ?_)
  · unfold Ex
    simp only [execOp,resolve,invoke,builtin,Sem.run_bind,Sem.run_pure,Result.andThen_ok,List.map_toArray,List.map_cons,List.map_nil,hx,hv]
    simp [Builtin.append_,run_underlying he.ty,sizeOf,typeInfo,zeroValue,hi,hz,hsize,Builtin.lenOf,hn,h63',h48',Question.forced,hf,hfo,newRow,grownCap]
    congr 2
    apply Array.ext'
    simp [List.append_assoc]
  · refine (Go.heap_alloc_new w.drew _).trans ?_
    congr 2
    apply Array.ext'
    simp [List.append_assoc]
theorem RL.apZ {e k n c m bytes dd:Nat} {kn kk:IntKind} {A:Option Addr} {xs:List Value} {J:Int} (he:Elt P t e k bytes) (hk:Nat.blt 0 k = true) (hti:P.underlying t' = some (.int kn)) (hx:ev ρ x = .slice A n c) (hxs:Src P w k (.slice A n c) n xs) (hroom:c < n + m)
    (hy:ev ρ y = .int kk J) (hJ:J = (m:Int)) (hm0:0 < m) (hmax:n + m ≤ 9223372036854775807) (hsz:(n + m) * bytes ≤ 140737488355328)
    (hg:gd ops ρ ⟨some dd,.call ⟨.builtin .append, #[x,y], #[t,t']⟩,ty,ps,af,gu⟩ = true) (hN:Nat.blt dd N = true)
    (h : ∀ w' b c' zs, b = w.heap.size → w'.heap.size = w.heap.size + 1 → w.grownBy w' none → n + m ≤ c' → c' ≤ maxLen → zs.length = (c' - n) * k → Ob w' b e (xs ++ zs) → RL P N ops Q rest (upd ρ dd (.slice (some ⟨b, 0, none⟩) (n + m) c')) w') :
    RL P N ops Q (⟨some dd,.call ⟨.builtin .append, #[x,y], #[t,t']⟩,ty,ps,af,gu⟩ :: rest) ρ w:=by
  subst hJ
  obtain ⟨i,z,hi,hz,hsize,hby,hzs⟩:=he.inf
  have hk':0 < k:=by simpa using hk
  have hfo:=hxs.rd w.drew rfl n (Nat.le_refl _)
  rw [List.take_of_length_le (by rw [hxs.len]; exact Nat.le_refl _)] at hfo
  have hn : ¬ (n + m ≤ c):=by omega
  have hw:IntKind.i64.wrap (m:Int) = m:=by rw [IntKind.wrap_i64]; omega
  have hneg : ¬ ((m:Int) < 0):=by omega
  have h63' : ¬ (9223372036854775807 < ((n:Int) + (m:Int))):=by omega
  have h48:Builtin.nextslicecap (n + m) c * i.bytes ≤ 281474976710656:=growslice_fits (by omega) (by rw [hby]; exact hsz)
  have h48' : ¬ (281474976710656 < Builtin.nextslicecap (n + m) c * i.bytes):=by omega
  have hmb:m * i.bytes ≤ (n + m) * bytes:=by rw [hby]; exact Nat.mul_le_mul_right _ (by omega)
  have h48i : ¬ (281474976710656 < (m:Int) * (i.bytes:Int)):=by
    rw [← Int.natCast_mul]
    omega
  have hns : ¬ (m * i.size = 0):=Nat.mul_ne_zero (by omega) (by omega)
  have hns' : ¬ (m * k = 0):=Nat.mul_ne_zero (by omega) (by omega)
  have hge:=grownCap_ge w (n + m) c e
  refine aN (w':=w.drew.alloc (.cells (xs.toArray ++ Builtin.zeroCells z.cells m ++ Builtin.zeroCells z.cells (grownCap w (n + m) c e - (n + m))) e)) Z hg hN ?_
    (h _ w.heap.size (grownCap w (n + m) c e) ((Builtin.zeroCells z.cells m).toList ++ (Builtin.zeroCells z.cells (grownCap w (n + m) c e - (n + m))).toList) rfl (by simp) ⟨rfl,rfl,rfl,by simp,fun j hj _=>Go.heap_alloc_old w.drew _ hj⟩ hge (grownCap_le_maxLen w _ _ _ (by simp only [maxLen]; omega)) ?_ ?_)
  · unfold Ex
    simp only [execOp,resolve,invoke,builtin,Sem.run_bind,Sem.run_pure,Result.andThen_ok,List.map_toArray,List.map_cons,List.map_nil,hx,hy]
    simp [Builtin.append_,run_underlying he.ty,run_underlying hti,sizeOf,typeInfo,zeroValue,hi,hz,hsize,asInt,asIntOf,hw,hn,hneg,hns,hns',h63',h48',h48i,Question.forced,hfo,newRow,grownCap]
  · simp only [List.length_append,Array.length_toList,size_zeroCells,hzs,← Nat.add_mul]
    congr 1; omega
  · refine (Go.heap_alloc_new w.drew _).trans ?_
    congr 2
    apply Array.ext'
    simp [List.append_assoc]
theorem Ex.capS {e:TypeId} {A:Option Addr} {n c:Nat} (ht:P.underlying t = some (.slice e)) (hx:ev ρ x = .slice A n c) :
    Ex P ρ ⟨d,.call ⟨.builtin .cap, #[x], #[t]⟩,ty,ps,af,gu⟩ w (.int .i64 (c:Int)) w:=by
  unfold Ex
  simp [execOp,resolve,invoke,builtin,hx,Builtin.cap_,run_underlying ht,goInt]
theorem cK {e g o n c i k:Nat} {I:Int} {o' n' c':Nat} (ht:P.underlying t = some (.slice e)) (hs : ∀ w:World,(sizeOf e).run P w = .ok k w) (hx:ev ρ x = .slice (some ⟨g,o,none⟩) n c) (hy:ev ρ y = .int .i64 I) (hI:I = (i:Int)) (hi:i ≤ n) (hc:i < c)
    (ho' : o + i * k = o') (hn' : n - i = n') (hc' : c - i = c') : Ex P ρ ⟨d, .slice t x (some y) none none, ty, ps, af, gu⟩ w (.slice (some ⟨g, o', none⟩) n' c') w := by
  subst ho'; subst hn'; subst hc'
  refine bV ht hs hx hy hI hi ?_
  rw [if_neg (by omega),Option.map_some,add_lit]
theorem Ex.extn {f:FuncId} {al:List Operand} {l:List Value} {tys:Array TypeId} (hf:(callFunc f l.toArray).run P w = .ok (.value v) w) (ha:al.map (ev ρ) = l) :
    Ex P ρ ⟨d,.call ⟨.value (.func f),al.toArray,tys⟩,ty,ps,af,gu⟩ w v w:=by
  subst ha
  unfold Ex
  simp [execOp,resolve,ev,Deferred.ofValue,invoke]
  simpa using hf
end
structure Wr (w:World) (base e k:Nat) (A:Option Addr) (n c:Nat) (xss:List (List Value)):Prop where
  len:xss.length = n
  all : ∀ x ∈ xss,x.length = k
  row:(A = none∧n = 0∧c = 0) ∨ ∃ g off cs,A = some ⟨g,off,none⟩∧base ≤ g∧Ob w g e cs∧off + c * k ≤ cs.length∧n ≤ c∧c ≤ maxLen∧(cs.drop off).take (n * k) = xss.flatten
section
variable {w w':World} {base e k c n b T:Nat} {A:Option Addr} {xss:List (List Value)} {cs:List Value} {row:Option Nat}
theorem Wr.blk (h:Wr w base e k A n c xss) {g:Nat} (hg:(Value.slice A n c).ownBlock = some g):base ≤ g∧g < w.heap.size:=by
  rcases h.row with ⟨h1,_⟩ | ⟨g',off,cs,h1,hb,ho,_⟩
  · subst h1; simp [Value.ownBlock] at hg
  · subst h1; simp [Value.ownBlock] at hg; subst hg; exact ⟨hb,ho.lt⟩
theorem Wr.ne_or (h:Wr w base e k A n c xss) (hb:b < base ∨ w.heap.size ≤ b):(Value.slice A n c).ownBlock ≠ some b:=fun hg=>by have:=h.blk hg; omega
theorem Wr.kept (h:Wr w base e k A n c xss) (g:w.grownBy w' row) (hne:(Value.slice A n c).ownBlock = none ∨ (Value.slice A n c).ownBlock ≠ row):Wr w' base e k A n c xss:=by
  refine ⟨h.len,h.all,?_⟩
  rcases h.row with h1 | ⟨g',off,cs,rfl,hb,ho,rest⟩
  · exact .inl h1
  · refine .inr ⟨g',off,cs,rfl,hb,?_,rest⟩
    have:some g' ≠ row:=by
      rcases hne with hne | hne
      · simp [Value.ownBlock] at hne
      · simpa [Value.ownBlock] using hne
    exact (g.block g' ho.lt this).trans ho
theorem Wr.st0 (h:Wr w base e k A n c xss) (g:w.grownBy w' none):Wr w' base e k A n c xss:=h.kept g (by cases hv:(Value.slice A n c).ownBlock <;> simp)
theorem Wr.st1 (h:Wr w base e k A n c xss) (g:w.grownBy w' row) (hne:(Value.slice A n c).ownBlock ≠ row):Wr w' base e k A n c xss:=h.kept g (.inr hne)
theorem Wr.weak {base':Nat} (h:Wr w base e k A n c xss) (hb:base' ≤ base):Wr w base' e k A n c xss :=
  ⟨h.len,h.all,h.row.imp id fun ⟨g,off,cs,h1,h2,r⟩=>⟨g,off,cs,h1,Nat.le_trans hb h2,r⟩⟩
theorem Ow.wr (h:Ow w base e k A c xss) (hn:n = xss.length):Wr w base e k A n c xss:=by
  subst hn
  refine ⟨Z,h.all,?_⟩
  rcases h.own.2 with ⟨h1,h2⟩ | ⟨g,cap,cur,h1,hb,hg,hnc,hcm,hcs,htk⟩
  · injection h1 with h1 h3 h4; exact .inl ⟨h1,h2,h4⟩
  · injection h1 with h1 h3 h4
    subst h1; subst h4
    refine .inr ⟨g,0,cur.toList,rfl,hb,?_,by simp [hcs],hnc,hcm,by simpa using htk⟩
    unfold Ob; simpa using hg
theorem Wr.rd (h:Wr w base e k A n c xss):Rd w w.heap.size k A xss:=by
  refine ⟨h.all,fun hn=>?_⟩
  rcases h.row with ⟨_,h2,_⟩ | ⟨g,off,cs,rfl,hb,ho,hl,_,_,htk⟩
  · exact absurd (List.length_eq_zero_iff.1 (by rw [h.len,h2])) hn
  · refine ⟨_,rfl,ho.lt,fun i x hx j u hu=>?_⟩
    rw [add_add,add_lit]
    have h1:=flat_get h.all hx hu
    rw [← htk,List.getElem?_take] at h1
    split at h1
    · rw [List.getElem?_drop] at h1; exact ho.cell h1
    · cases h1
theorem flat_len : ∀ {xss:List (List Value)},(∀ x ∈ xss,x.length = k) → xss.flatten.length = xss.length * k
  | [],_=>by simp
  | y :: ys,h=>by
    have ih:=flat_len (xss:=ys) (fun x hx=>h x (List.mem_cons_of_mem _ hx))
    simp only [List.flatten_cons,List.length_append,List.length_cons,h y (by simp),ih,Nat.add_mul,Nat.one_mul]; omega
theorem flat_take : ∀ {xss:List (List Value)} (i:Nat),(∀ x ∈ xss,x.length = k) → (xss.take i).flatten = xss.flatten.take (i * k)
  | [],i,_=>by simp
  | y :: ys,0,_=>by simp
  | y :: ys,i + 1,h=>by
    have hy:=h y (by simp)
    have ih:=flat_take (xss:=ys) i (fun x hx=>h x (List.mem_cons_of_mem _ hx))
    have e:(i + 1) * k = y.length + i * k:=by rw [hy,Nat.add_mul]; omega
    simp only [List.take_succ_cons,List.flatten_cons,ih]
    rw [e,List.take_length_add_append]
theorem flat_drop : ∀ {xss:List (List Value)} (i:Nat),(∀ x ∈ xss,x.length = k) → (xss.drop i).flatten = xss.flatten.drop (i * k)
  | [],i,_=>by simp
  | y :: ys,0,_=>by simp
  | y :: ys,i + 1,h=>by
    have hy:=h y (by simp)
    have ih:=flat_drop (xss:=ys) i (fun x hx=>h x (List.mem_cons_of_mem _ hx))
    have e:(i + 1) * k = y.length + i * k:=by rw [hy,Nat.add_mul]; omega
    simp only [List.drop_succ_cons,List.flatten_cons,ih]
    rw [e,List.drop_length_add_append]
end
theorem ins_room {cs X V:List Value} {off I N M:Nat} (hX:(cs.drop off).take N = X) (hXl:X.length = N) (hV:V.length = M) (hI:I ≤ N) (hl:off + N + M ≤ cs.length) :
    ((pt (pt cs (off + I + M) (X.drop I)) (off + I) V).drop off).take (N + M) = X.take I ++ V ++ X.drop I:=by
  have h1:off + I + M + (X.drop I).length ≤ cs.length:=by rw [List.length_drop]; omega
  have h2:off + I + V.length ≤ (pt cs (off + I + M) (X.drop I)).length:=by rw [pt_length h1]; omega
  apply List.ext_getElem?
  intro j
  rw [List.getElem?_take]
  split
  · rename_i hj
    rw [List.getElem?_drop,pt_get h2,pt_get h1]
    have hXj : ∀ i,i < N → cs[off + i]? = X[i]? := by
      intro i hi
      rw [← hX,List.getElem?_take_of_lt hi,List.getElem?_drop]
    rcases Nat.lt_or_ge j I with h3 | h3
    · rw [if_pos (by omega),if_pos (by omega),hXj j (by omega),List.append_assoc,List.getElem?_append_left (by rw [List.length_take]; omega),List.getElem?_take_of_lt h3]
    · rw [if_neg (by omega)]
      rcases Nat.lt_or_ge j (I + M) with h4 | h4
      · rw [if_pos (by omega),List.getElem?_append_left (by rw [List.length_append,List.length_take]; omega),List.getElem?_append_right (by rw [List.length_take]; omega),List.length_take]
        congr 1; omega
      · rw [if_neg (by omega),if_neg (by omega),if_pos (by rw [List.length_drop]; omega),List.getElem?_append_right (by rw [List.length_append,List.length_take]; omega),List.length_append,List.length_take]
        congr 1; omega
  · rename_i hj
    rw [List.getElem?_eq_none]
    simp only [List.length_append,List.length_take,List.length_drop]; omega
theorem ins_new {X V zs:List Value} {I N M L:Nat} (hXl:X.length = N) (hV:V.length = M) (hI:I ≤ N) (hz:I + zs.length = L) (hl:N + M ≤ L) :
    ((pt (pt (X.take I ++ zs) I V) (I + M) (X.drop I)).drop 0).take (N + M) = X.take I ++ V ++ X.drop I:=by
  have hcl:(X.take I ++ zs).length = L:=by rw [List.length_append,List.length_take]; omega
  have h1:I + V.length ≤ (X.take I ++ zs).length:=by omega
  have h2:I + M + (X.drop I).length ≤ (pt (X.take I ++ zs) I V).length:=by rw [pt_length h1,List.length_drop]; omega
  apply List.ext_getElem?
  intro j
  rw [List.getElem?_take]
  split
  · rename_i hj
    rw [List.getElem?_drop,Nat.zero_add,pt_get h2,pt_get h1]
    rcases Nat.lt_or_ge j I with h3 | h3
    · rw [if_pos (by omega),if_pos (by omega),List.getElem?_append_left (by rw [List.length_take]; omega),List.append_assoc,List.getElem?_append_left (by rw [List.length_take]; omega)]
    · rcases Nat.lt_or_ge j (I + M) with h4 | h4
      · rw [if_pos (by omega),if_neg (by omega),if_pos (by omega),List.getElem?_append_left (by rw [List.length_append,List.length_take]; omega),List.getElem?_append_right (by rw [List.length_take]; omega),List.length_take]
        congr 1; omega
      · rw [if_neg (by omega),if_pos (by rw [List.length_drop]; omega),List.getElem?_append_right (by rw [List.length_append,List.length_take]; omega),List.length_append,List.length_take]
        congr 1; omega
  · rename_i hj
    rw [List.getElem?_eq_none]
    simp only [List.length_append,List.length_take,List.length_drop]; omega
end Go.Eng
namespace Go.Eng
theorem seg_eq {cs:List Value} {off I N a b:Nat} (hb:b = N - I) (hab:b ≤ a) (hI:I ≤ N):((cs.drop (off + I)).take a).take b = ((cs.drop off).take N).drop I:=by
  rw [List.take_take,List.drop_take,List.drop_drop,Nat.min_eq_left hab,hb]
end Go.Eng
namespace Go.Eng
open Go Go.RowKit
def bk (A:Option Addr):Option Nat:=A.map (·.block)
theorem own_bk (A:Option Addr) (n c:Nat):(Value.slice A n c).ownBlock = bk A:=by cases A <;> rfl
def Sep (A A':Option Addr):Prop := ∀ g,bk A = some g → bk A' ≠ some g
def Nx (w:World) (A A':Option Addr):Prop := ∀ g,bk A' = some g → bk A = some g ∨ w.heap.size ≤ g
theorem Nx.refl_ (w:World) (A:Option Addr):Nx w A A:=fun _ h=>.inl h
section
variable {w w':World} {base base2 e e2 k k2 c c2 n n2 b T B:Nat} {A A1 A2 A':Option Addr} {xss yss:List (List Value)} {cs:List Value} {row:Option Nat}
theorem Wr.lt (h:Wr w base e k A n c xss) {g:Nat} (hg:bk A = some g):base ≤ g∧g < w.heap.size:=h.blk (by rw [own_bk]; exact hg)
theorem Wr.nil_ (w:World) (base e k:Nat):Wr w base e k none 0 0 []:=⟨rfl,by simp,.inl ⟨rfl,rfl,rfl⟩⟩
theorem Sep.symm (h : Sep A A') : Sep A' A := fun g h1 h2 => h g h2 h1
theorem Sep.right (h : Sep A1 A2) (hw : Wr w base e k A1 n c xss) (nx : Nx w A2 A') : Sep A1 A' := fun g h1 h2 => by
  rcases nx g h2 with h3 | h3
  · exact h g h1 h3
  · have:=hw.lt h1; omega
theorem Sep.left (h : Sep A1 A2) (hw : Wr w base e k A2 n c xss) (nx : Nx w A1 A') : Sep A' A2 := (h.symm.right hw nx).symm
theorem Sep.none_ (A:Option Addr):Sep A none:=fun _ _ h=>by cases h
theorem Wr.apart (h:Wr w base e k A1 n c xss) (hs:Sep A1 A2) (g:w.grownBy w' (Value.slice A2 n2 c2).ownBlock):Wr w' base e k A1 n c xss:=by
  refine h.kept g ?_
  rw [own_bk,own_bk]
  cases hb:bk A1 with
  | none=>exact .inl rfl
  | some g1=>exact .inr (Ne.symm (hs g1 hb))
theorem grow_wr {w0 w1 w2:World} (g:w0.grownBy w1 row) (h:w1.grownBy w2 (Value.slice A n c).ownBlock) (own:Wr w1 base e k A n2 c2 xss) (hb:w0.heap.size ≤ base):w0.grownBy w2 row :=
  ⟨h.os.trans g.os,h.tape.trans g.tape,h.output.trans g.output,Nat.le_trans g.size h.size,fun j hj hne=>(h.block j (Nat.lt_of_lt_of_le hj g.size) (by
    rw [own_bk]; intro hg; have:=own.lt hg.symm; omega)).trans (g.block j hj hne)⟩
end
section
variable {P:Program} {N:Nat} {Q Q':Exit → Da → World → Prop} {ρ:Da} {w:World} {ops rest:List Oper} {d:Option Tmp} {ty:TypeId} {ps:String} {af:Array Edge} {gu:Option (Nat × Bool)}
variable {x y z:Operand} {v u:Value} {t t' ty':TypeId}
theorem RL.slW {e base k n c i dd:Nat} {A:Option Addr} {xss:List (List Value)} {J:Int} (ht:P.underlying t = some (.slice e)) (hs : ∀ w:World,(sizeOf e).run P w = .ok k w) (own:Wr w base e k A n c xss)
    (hx:ev ρ x = .slice A n c) (hy:ev ρ y = .int .i64 J) (hJ:J = (i:Int)) (hi:i ≤ n)
    (hg:gd ops ρ ⟨some dd,.slice t x (some y) none none,ty,ps,af,gu⟩ = true) (hN:Nat.blt dd N = true)
    (h : ∀ A',bk A' = bk A → Wr w base e k A' (n - i) (c - i) (xss.drop i) → RL P N ops Q rest (upd ρ dd (.slice A' (n - i) (c - i))) w) :
    RL P N ops Q (⟨some dd,.slice t x (some y) none none,ty,ps,af,gu⟩ :: rest) ρ w:=by
  refine aN Z hg hN (bV ht hs hx hy hJ hi Z) (h _ ?_ ?_)
  · split
    · rfl
    · cases A with
      | none=>rfl
      | some a=>simp [bk,add_block]
  · have hl:=own.len
    refine ⟨by rw [List.length_drop,hl],fun x hx=>own.all x (List.mem_of_mem_drop hx),?_⟩
    rcases own.row with ⟨rfl,h1,h2⟩ | ⟨g,off,cs,rfl,hb,ho,hle,hnc,hcm,htk⟩
    · left
      refine ⟨by split <;> rfl,by omega,by omega⟩
    · right
      by_cases hc:c = i
      · rw [if_pos hc]
        refine ⟨g,off,cs,rfl,hb,ho,?_,by omega,by omega,?_⟩
        · have:(c - i) * k = 0:=by rw [show c - i = 0 by omega,Nat.zero_mul]
          have h0:0 ≤ c * k:=Nat.zero_le _
          omega
        · rw [show n - i = 0 by omega,Nat.zero_mul,List.take_zero,List.drop_eq_nil_of_le (by omega)]; rfl
      · rw [if_neg hc,Option.map_some,add_lit]
        have hik:c * k = i * k + (c - i) * k:=by rw [← Nat.add_mul]; congr 1; omega
        have hnk:n * k = i * k + (n - i) * k:=by rw [← Nat.add_mul]; congr 1; omega
        refine ⟨g,off + i * k,cs,rfl,hb,ho,by omega,by omega,by omega,?_⟩
        rw [flat_drop i own.all,← htk,List.drop_take,List.drop_drop]
        congr 1; omega
theorem cL {e k bytes base B n m c c2 dd:Nat} {A A2:Option Addr} {xss yss:List (List Value)} (he:Elt P t e k bytes) (own:Wr w base e k A n c xss) (hx:ev ρ x = .slice A n c)
    (hr:Rd w B k A2 yss) (hy:ev ρ y = .slice A2 m c2) (hm:m = yss.length) (h1 : ∀ u ∈ yss.flatten,u.oneCell' = true) (hsz:(n + m) * bytes ≤ 140737488355328) (hmax:n + m ≤ 9223372036854775807) (hbase:base ≤ w.heap.size)
    (hg:gd ops ρ ⟨some dd,.call ⟨.builtin .append, #[x,y], #[t,t]⟩,ty,ps,af,gu⟩ = true) (hN:Nat.blt dd N = true)
    (h : ∀ w' A' c', w.grownBy w' (Value.slice A n c).ownBlock → Wr w' base e k A' (n + m) c' (xss ++ yss) → Nx w A A' → RL P N ops Q rest (upd ρ dd (.slice A' (n + m) c')) w') :
    RL P N ops Q (⟨some dd,.call ⟨.builtin .append, #[x,y], #[t,t]⟩,ty,ps,af,gu⟩ :: rest) ρ w:=by
  have hl:=own.len
  have hall : ∀ z ∈ xss ++ yss,z.length = k:=fun z hz=>by exact (List.mem_append.1 hz).elim (own.all z) (hr.1 z)
  have hlen:(xss ++ yss).length = n + m:=by rw [List.length_append]; omega
  have hyf:yss.flatten.length = m * k:=by rw [flat_len hr.1,hm]
  have hxf:xss.flatten.length = n * k:=by rw [flat_len own.all,hl]
  have hsy:Src P w k (ev ρ y) m yss.flatten:=by rw [hy]; exact Src.rd_ hr hm
  have hmk:(n + m) * k = n * k + m * k:=Nat.add_mul _ _ _
  rcases own.row with ⟨rfl,hn0,hc0⟩ | ⟨g,off,cs,rfl,hb,ho,hle,hnc,hcm,htk⟩
  · subst hn0; subst hc0
    have hx0:xss = []:=List.eq_nil_of_length_eq_zero hl
    subst hx0
    rcases Nat.eq_zero_or_pos m with h0 | h0
    · subst h0
      have hy0:yss = []:=List.eq_nil_of_length_eq_zero hm.symm
      subst hy0
      refine aN (v:=.slice none (0 + 0) 0) (w':=w) Z hg hN ?_ (h w none 0 (Bs _ _) (by simpa using Wr.nil_ w base e k) (Nx.refl_ w none))
      obtain ⟨i,z,hi,hz,hsize,hby,hzs⟩:=he.inf
      have hf:=hsy.rd w rfl 0 (Nat.le_refl _)
      rw [hy] at hf
      unfold Ex
      simp only [execOp,resolve,invoke,builtin,Sem.run_bind,Sem.run_pure,Result.andThen_ok,List.map_toArray,List.map_cons,List.map_nil,hx,hy]
      simp [Builtin.append_,run_underlying he.ty,sizeOf,typeInfo,hi,hsize,Builtin.lenOf,hf]
    · refine RL.apG (n:=0) (c:=0) (m:=m) (xs:=([]:List (List Value)).flatten) (ys:=yss.flatten) he hx (Src.rd_ (Rd.nil_ _ 0 _ none) Z) (by omega) hsy hmax hsz hg hN ?_
      intro w' b c' zs hbb hzz gg h2 h3 h4 ob
      refine h w' _ c' (An gg _) ⟨hlen,hall,.inr ⟨b,0,_,rfl,by omega,ob,?_,h2,h3,?_⟩⟩ (fun g' hg'=>.inr ?_)
      · have:c' * k = (0 + m) * k + (c' - (0 + m)) * k:=by rw [← Nat.add_mul]; congr 1; omega
        simp only [List.length_append,List.flatten_nil,List.length_nil,hyf,h4,Nat.zero_add] at this ⊢; omega
      · simp only [List.flatten_nil,List.nil_append,List.drop_zero,Nat.zero_add]
        rw [List.take_append_of_le_length (by omega),List.take_of_length_le (by omega)]
      · simp only [bk,Option.map_some,Option.some.injEq] at hg'; omega
  · have hck:c * k = n * k + (c - n) * k:=by rw [← Nat.add_mul]; congr 1; omega
    rcases Nat.lt_or_ge c (n + m) with hroom | hroom
    · refine RL.apG (n:=n) (c:=c) (m:=m) (xs:=xss.flatten) (ys:=yss.flatten) he hx (Src.ob ho htk (by omega)) hroom hsy hmax hsz hg hN ?_
      intro w' b c' zs hbb hzz gg h2 h3 h4 ob
      refine h w' _ c' (An gg _) ⟨hlen,hall,.inr ⟨b,0,_,rfl,by omega,ob,?_,h2,h3,?_⟩⟩ (fun g' hg'=>.inr ?_)
      · have:c' * k = (n + m) * k + (c' - (n + m)) * k:=by rw [← Nat.add_mul]; congr 1; omega
        simp only [List.length_append,hxf,hyf,h4]; omega
      · rw [List.drop_zero,List.flatten_append,List.take_append_of_le_length (by simp only [List.length_append]; omega),List.take_of_length_le (by simp only [List.length_append]; omega)]
      · simp only [bk,Option.map_some,Option.some.injEq] at hg'; omega
    · have hcm2:c * k = (n + m) * k + (c - (n + m)) * k:=by rw [← Nat.add_mul]; congr 1; omega
      refine RL.apR he ho hx hle hroom hsy h1 hg hN ?_
      intro w' hzz gg ob
      refine h w' _ c gg ⟨hlen,hall,.inr ⟨g,off,_,rfl,hb,ob,?_,hroom,hcm,?_⟩⟩ (Nx.refl_ _ _)
      · rw [pt_length (by omega)]; exact hle
      · rw [List.flatten_append,hmk]
        have h0:=ins_room (V:=yss.flatten) (I:=n * k) (M:=m * k) htk hxf hyf (Nat.le_refl _) (by omega)
        have e0:xss.flatten.drop (n * k) = []:=List.drop_eq_nil_of_le (by omega)
        have e1:xss.flatten.take (n * k) = xss.flatten:=List.take_of_length_le (by omega)
        rw [e0,show pt cs (off + n * k + m * k) [] = cs by simp [pt],e1,List.append_nil] at h0
        exact h0
end
end Go.Eng
namespace Go.Eng
section
variable {w w':World} {base base2 e e2 k k2 c c2 n n2 b T B:Nat} {A A0 A1 A2 A':Option Addr} {xss yss:List (List Value)} {cs:List Value} {row:Option Nat}
theorem grow_nx {w0 w1 w2:World} {r:Option Nat} (g:w0.grownBy w1 r) (h:w1.grownBy w2 (Value.slice A1 n c).ownBlock) (nx:Nx w0 A0 A1) (hr:bk A0 = r):w0.grownBy w2 r :=
  ⟨h.os.trans g.os,h.tape.trans g.tape,h.output.trans g.output,Nat.le_trans g.size h.size,fun j hj hne=>(h.block j (Nat.lt_of_lt_of_le hj g.size) (by
    rw [own_bk]; intro hg
    rcases nx j hg.symm with h1 | h1
    · rw [← hr] at hne; exact hne h1.symm
    · omega)).trans (g.block j hj hne)⟩
theorem Nx.trans_ {w0 w1 : World} (h : Nx w0 A0 A1) (h2 : Nx w1 A1 A') (hz : w0.heap.size ≤ w1.heap.size) : Nx w0 A0 A' := fun g hg => by
  rcases h2 g hg with h3 | h3
  · exact h g h3
  · exact .inr (by omega)
theorem Nx.of_bk (h:Nx w A0 A1) (hb:bk A' = bk A1):Nx w A0 A':=fun g hg=>h g (by rw [← hb]; exact hg)
theorem Sep.of_bk (h:Sep A1 A2) (hb:bk A' = bk A1):Sep A' A2:=fun g hg=>h g (by rw [← hb]; exact hg)
theorem Wr.of_ob (h:Ob w b e cs) (hk:cs.length = k) (hb:base ≤ b):Wr w base e k (some ⟨b,0,none⟩) 1 1 [cs] :=
  ⟨rfl,by simpa using hk,.inr ⟨b,0,cs,rfl,hb,h,by omega,Nat.le_refl _,by unfold maxLen; decide,by simp [← hk]⟩⟩
end
end Go.Eng
namespace Go.Eng
open Go Go.RowKit
section
variable {P:Program} {ops:Array Oper} {md:Region.Mode} {w0:World}
def YG (P:Program) (ops:Array Oper) (w0:World) (o:Oper) (v:Value) (a:Act):Prop :=
  (Region.wanted o (yielded ops a.tmps) = true ∧ ∀ w,w0.grownBy w none → o.quietAt P a (fun x=>w.grownBy x none) w v) ∨ (Region.wanted o (yielded ops a.tmps) = false∧v = undef)
def qG (P:Program) (ops:Array Oper) (w0:World) (i:Nat) (K:Act → Prop) (a:Act):Prop := ∃ o,ops[i]? = some o ∧ ∃ v,YG P ops w0 o v a∧K (a.put o.dst v)
theorem qG.mono {i:Nat} {K K':Act → Prop} {a:Act} (h:qG P ops w0 i K a) (hk : ∀ a,K a → K' a):qG P ops w0 i K' a :=
  let ⟨o,h1,v,h2,h3⟩:=h
  ⟨o,h1,v,h2,hk _ h3⟩
theorem YG.same {o:Oper} {v:Value} {a a':Act} (h:YG P ops w0 o v a) (he:execOp a'.eval o = execOp a.eval o) (hw:Region.wanted o (yielded ops a'.tmps) = Region.wanted o (yielded ops a.tmps)):YG P ops w0 o v a':=by
  unfold YG Oper.quietAt at *
  rw [he,hw]
  exact h
theorem quietUpon_sub {C C':World → Prop} {w:World} {v:Value} {r:Result Next} (hs : ∀ x,C x → C' x) (h:Oper.quietUpon P C w v r):Oper.quietUpon P C' w v r:=by
  unfold Oper.quietUpon at *
  split at h
  · exact h
  · exact h
  · exact ⟨h.1,Calls.mono h.2 fun _ _ hh=>⟨hh.1,hs _ hh.2⟩⟩
  · exact h
theorem qG.wp {i : Nat} {K : Act → Prop} {K' : Act → World → Prop} {Q : Exit → Act → World → Prop} {a : Act} {w : World} (h : qG P ops w0 i K a) (hw : w0.grownBy w none) (hk : ∀ a w', w.grownBy w' none → K a → K' a w') : wpOp P ops Q i K' a w := by
  obtain ⟨o,ho,v,hy,hK⟩:=h
  refine wpOp_of_qOp (C:=fun x=>w.grownBy x none) (Bs w none) hk ?_
  unfold qOp
  rw [ho]
  rcases hy with ⟨h1,h2⟩ | ⟨h1,rfl⟩
  · simp only [h1,if_true]
    exact ⟨v, fun w' hw' => quietUpon_sub (fun x hx => Ac hw' hx) (h2 w' (Ac hw hw')), hK⟩
  · simp only [h1]; exact hK
theorem qG.put {j:Nat} {oi oj:Oper} {v:Value} (hj:ops[j]? = some oj) (hap:oi.apart ops oj = true) (hsi : ∀ cs b,oi.op ≠ .select cs b) (hsj : ∀ cs b,oj.op ≠ .select cs b) {K:Act → Prop} {a:Act}
    (hy:YG P ops w0 oi v a) (h:qG P ops w0 j K (a.put oi.dst v)):qG P ops w0 j (fun a'=>YG P ops w0 oi v a'∧K (a'.put oi.dst v)) a:=by
  obtain ⟨h1,h2,h3⟩:=Oper.apart_spec hap
  obtain ⟨o,ho,u,hu,hK⟩:=h
  have:o = oj:=Option.some.inj (ho.symm.trans hj)
  subst this
  refine ⟨o,ho,u,hu.same (execOp_put o hsj a oi.dst v h1).symm (wanted_put o a oi.dst v h1).symm,hy.same (execOp_put oi hsi a o.dst u h3) (wanted_put oi a o.dst u h3),?_⟩
  rw [← Act.put_comm a v u h2]
  exact hK
def XA (P:Program) (ops:Array Oper) (o0:Oper) (mk:Nat → Value) (T:TypeId) (cs:List Value) (a:Act):Prop :=
  Region.wanted o0 (yielded ops a.tmps) = true ∧ ∀ w,(execOp a.eval o0).run P w = .ok (.value (mk w.heap.size)) (w.alloc (.cells cs.toArray T))
theorem XA.same {o0:Oper} {mk:Nat → Value} {T:TypeId} {cs:List Value} {a a':Act} (h:XA P ops o0 mk T cs a) (he:execOp a'.eval o0 = execOp a.eval o0) (hw:Region.wanted o0 (yielded ops a'.tmps) = Region.wanted o0 (yielded ops a.tmps)):XA P ops o0 mk T cs a':=by
  unfold XA at *
  rw [he,hw]; exact h
def HP (P:Program) (md:Region.Mode) (ops:Array Oper) (w0:World) (n:Nat) (L:Array Bool → Act → Prop):Nat → Array Bool → Act → Prop
  | 0,li,a=>L li a
  | f + 1,li,a=>Region.ready md ops li ≠ [] ∧ ∀ i ∈ Region.ready md ops li,i < n∧qG P ops w0 i (HP P md ops w0 n L f (li.setIfInBounds i true)) a
def HF (P:Program) (md:Region.Mode) (ops:Array Oper) (w0:World) (n:Nat) (o0:Oper) (X:Act → Prop) (L:Value → Array Bool → Act → Prop):Nat → Array Bool → Act → Prop
  | 0,_,_=>False
  | f + 1,li,a=>Region.ready md ops li ≠ [] ∧ ∀ i ∈ Region.ready md ops li,(i < n∧qG P ops w0 i (HF P md ops w0 n o0 X L f (li.setIfInBounds i true)) a) ∨ (i = n∧X a ∧ ∀ p,HP P md ops w0 n (L p) f (li.setIfInBounds i true) (a.put o0.dst p))
theorem HP.any {n g:Nat} {L:Array Bool → Act → Prop} {Q:Exit → Act → World → Prop} {b:Nat} {T:TypeId} {cs:List Value} (hL : ∀ li a w,w0.grownBy w none → Ob w b T cs → L li a → wpAny P md ops Q g li a w) :
    ∀ (f:Nat) (li:Array Bool) (a:Act) (w:World),w0.grownBy w none → Ob w b T cs → HP P md ops w0 n L f li a → wpAny P md ops Q (f + g) li a w
  | 0,li,a,w,hw,ho,h=>by rw [Nat.zero_add]; exact hL _ _ _ hw ho h
  | f + 1,li,a,w,hw,ho,h=>by
    rw [show f + 1 + g = (f + g) + 1 by omega]
    exact ⟨fun h0=>absurd h0 h.1,fun i hi=>(h.2 i hi).2.wp hw fun a' w' hg h'=>HP.any hL f _ a' w' (Ac hw hg) (ho.st0 hg) h'⟩
theorem HF.any {n g:Nat} {o0:Oper} {mk:Nat → Value} {L:Value → Array Bool → Act → Prop} {Q:Exit → Act → World → Prop} {T:TypeId} {cs:List Value} (h0:ops[n]? = some o0)
    (hL : ∀ b li a w,w0.heap.size ≤ b → w0.grownBy w none → Ob w b T cs → L (mk b) li a → wpAny P md ops Q g li a w) :
    ∀ (f:Nat) (li:Array Bool) (a:Act) (w:World),w0.grownBy w none → HF P md ops w0 n o0 (XA P ops o0 mk T cs) L f li a → wpAny P md ops Q (f + g) li a w
  | 0,_,_,_,_,h=>h.elim
  | f + 1,li,a,w,hw,h=>by
    rw [show f + 1 + g = (f + g) + 1 by omega]
    refine ⟨fun hh=>absurd hh h.1,fun i hi=>?_⟩
    rcases h.2 i hi with ⟨_,h1⟩ | ⟨rfl,hx,h1⟩
    · exact h1.wp hw fun a' w' hg h'=>HF.any h0 hL f _ a' w' (Ac hw hg) h'
    · unfold wpOp
      rw [h0]
      simp only [hx.1,if_true]
      refine .inl ?_
      unfold Oper.wp
      rw [hx.2 w,Oper.upon_value]
      have hg:w.grownBy (w.alloc (.cells cs.toArray T)) none:=World.grownBy_alloc w _ none
      exact HP.any (b:=w.heap.size) (fun li a w' hw' ho' hl=>hL w.heap.size li a w' hw.size hw' ho' hl) f _ _ _ (Ac hw hg) (Go.heap_alloc_new w _) (h1 (mk w.heap.size))
theorem HP.first {n i:Nat} {oi:Oper} {v:Value} {L:Array Bool → Act → Prop} (hi:ops[i]? = some oi) (hsel : ∀ (j:Nat) (o:Oper) cs b,ops[j]? = some o → o.op ≠ .select cs b)
    (hs:Region.sinkB md ops (n + 1) = true) (hc:Region.chainB md ops (n + 1) = true) (hn:n + 1 < ops.size) (hin:i < n) (hend : ∀ li a,L li a → ∀ j ∈ Region.ready md ops li,n + 1 ≤ j) :
    ∀ (f:Nat) (li:Array Bool) (a:Act),HeadInv md ops (n + 1) li → li.getD n true = true →
      (∀ j oj,ops[j]? = some oj → j ≠ i → li.getD j true = false → (∀ e ∈ oj.after,Region.binds md e = true → e.on ≠ i) → oi.apart ops oj = true) →
      i ∈ Region.ready md ops li → YG P ops w0 oi v a → HP P md ops w0 n L f (li.setIfInBounds i true) (a.put oi.dst v) → HP P md ops w0 n L (f + 1) li a:=by
  intro f
  induction f with
  | zero =>
    intro li a inv hln _ hr hy H
    refine ⟨List.ne_nil_of_mem hr,fun j hj=>?_⟩
    have hjn:j < n + 1:=Nat.lt_of_not_le fun hle=>tail_waits hs hc hn inv _ i rfl (by omega) (mem_ready.1 hr).1 j hle hj
    have hjne:j ≠ n:=fun e=>by have:=(mem_ready.1 hj).1; rw [e,hln] at this; cases this
    by_cases hji:j = i
    · subst hji; exact ⟨hin,oi,hi,v,hy,H⟩
    · exact absurd (hend _ _ H j (ready_mono hj hji)) (by omega)
  | succ f ih =>
    intro li a inv hln hfree hr hy H
    have hun:=(mem_ready.1 hr).1
    refine ⟨List.ne_nil_of_mem hr,fun j hj=>?_⟩
    have hjn:j < n + 1:=Nat.lt_of_not_le fun hle=>tail_waits hs hc hn inv _ i rfl (by omega) hun j hle hj
    have hjne:j ≠ n:=fun e=>by have:=(mem_ready.1 hj).1; rw [e,hln] at this; cases this
    by_cases hji:j = i
    · subst hji; exact ⟨hin,oi,hi,v,hy,H⟩
    · refine ⟨by omega,?_⟩
      obtain ⟨hjun,oj,hoj,hall⟩:=mem_ready.1 hj
      have hnot : ∀ e ∈ oj.after,Region.binds md e = true → e.on ≠ i:=fun e he hb heq=>by
        have h1:=hall e he hb
        rw [heq,getD_both hun] at h1
        cases h1
      have h1:=(H.2 j (ready_mono hj hji)).2
      have h2:=qG.put hoj (hfree j oj hoj hji hjun hnot) (fun cs b=>hsel i oi cs b hi) (fun cs b=>hsel j oj cs b hoj) hy h1
      refine h2.mono fun a' h3=>ih (li.setIfInBounds j true) a' (inv.set hj hjn) (by rw [getD_set_ne true hjne]; exact hln) (fun k ok hk hki hu hno=>hfree k ok hk hki ?_ hno) (ready_mono hr (Ne.symm hji)) h3.1 ?_
      · by_cases hjk:j = k
        · subst hjk; exact hjun
        · rwa [getD_set_ne true hjk] at hu
      · rw [Array.setIfInBounds_comm _ _ hji]; exact h3.2
theorem HF.first {n i:Nat} {oi o0:Oper} {v:Value} {mk:Nat → Value} {T:TypeId} {cs:List Value} {L:Value → Array Bool → Act → Prop} (hi:ops[i]? = some oi) (h0:ops[n]? = some o0) (hsel : ∀ (j:Nat) (o:Oper) cs b,ops[j]? = some o → o.op ≠ .select cs b)
    (hs:Region.sinkB md ops (n + 1) = true) (hc:Region.chainB md ops (n + 1) = true) (hn:n + 1 < ops.size) (hin:i < n) (hend : ∀ p li a,L p li a → ∀ j ∈ Region.ready md ops li,n + 1 ≤ j) :
    ∀ (f:Nat) (li:Array Bool) (a:Act),HeadInv md ops (n + 1) li → li.getD n true = false →
      (∀ j oj,ops[j]? = some oj → j ≠ i → li.getD j true = false → (∀ e ∈ oj.after,Region.binds md e = true → e.on ≠ i) → oi.apart ops oj = true) →
      i ∈ Region.ready md ops li → YG P ops w0 oi v a → HF P md ops w0 n o0 (XA P ops o0 mk T cs) L f (li.setIfInBounds i true) (a.put oi.dst v) → HF P md ops w0 n o0 (XA P ops o0 mk T cs) L (f + 1) li a:=by
  intro f
  induction f with
  | zero=>intro li a _ _ _ _ _ H; exact H.elim
  | succ f ih =>
    intro li a inv hln hfree hr hy H
    have hun:=(mem_ready.1 hr).1
    refine ⟨List.ne_nil_of_mem hr,fun j hj=>?_⟩
    have hjn:j < n + 1:=Nat.lt_of_not_le fun hle=>tail_waits hs hc hn inv _ i rfl (by omega) hun j hle hj
    by_cases hji:j = i
    · subst hji; exact .inl ⟨hin,oi,hi,v,hy,H⟩
    · obtain ⟨hjun,oj,hoj,hall⟩:=mem_ready.1 hj
      have hnot : ∀ e ∈ oj.after,Region.binds md e = true → e.on ≠ i:=fun e he hb heq=>by
        have h1:=hall e he hb
        rw [heq,getD_both hun] at h1
        cases h1
      have hap:=hfree j oj hoj hji hjun hnot
      have hfree' : ∀ k ok,ops[k]? = some ok → k ≠ i → (li.setIfInBounds j true).getD k true = false → (∀ e ∈ ok.after,Region.binds md e = true → e.on ≠ i) → oi.apart ops ok = true:=fun k ok hk hki hu hno=>hfree k ok hk hki (by
        by_cases hjk:j = k
        · subst hjk; exact hjun
        · rwa [getD_set_ne true hjk] at hu) hno
      rcases H.2 j (ready_mono hj hji) with ⟨hlt,h1⟩ | ⟨hjn',hx,h1⟩
      · left
        refine ⟨hlt,?_⟩
        have h2:=qG.put hoj hap (fun cs b=>hsel i oi cs b hi) (fun cs b=>hsel j oj cs b hoj) hy h1
        refine h2.mono fun a' h3=>ih (li.setIfInBounds j true) a' (inv.set hj hjn) (by rw [getD_set_ne true (by omega)]; exact hln) hfree' (ready_mono hr (Ne.symm hji)) h3.1 ?_
        rw [Array.setIfInBounds_comm _ _ hji]; exact h3.2
      · right
        subst hjn'
        have:oj = o0:=Option.some.inj (hoj.symm.trans h0)
        subst this
        obtain ⟨p1,p2,p3⟩:=Oper.apart_spec hap
        refine ⟨Z,hx.same (execOp_put oj (fun cs b=>hsel j oj cs b hoj) a oi.dst v p1).symm (wanted_put oj a oi.dst v p1).symm,fun p=>?_⟩
        have hln':(li.setIfInBounds j true).getD j true = true:=by
          have hjs:j < li.size:=by rw [inv.size]; exact (Array.getElem?_eq_some_iff.1 hoj).1
          simp [hjs]
        refine HP.first hi hsel hs hc hn hin (hend p) f _ _ (inv.set hj hjn) hln' hfree' (ready_mono hr (Ne.symm hji)) (hy.same (execOp_put oi (fun cs b=>hsel i oi cs b hi) a oj.dst p p3) (wanted_put oi a oj.dst p p3)) ?_
        rw [Array.setIfInBounds_comm _ _ hji,← Act.put_comm a v p p2]
        exact h1 p
def wpG (P:Program) (ops:Array Oper) (w0:World) (Q:Act → Prop):List Oper → Act → Prop
  | [],a=>Q a
  | o :: rest,a => ∃ v,YG P ops w0 o v a∧wpG P ops w0 Q rest (a.put o.dst v)
theorem HF.lex {n g:Nat} {o0:Oper} {mk:Nat → Value} {T:TypeId} {cs:List Value} {q:Value → Act → Prop} (hsel:Region.noSelect ops = true) (h0:ops[n]? = some o0) (hs:Region.sinkB md ops (n + 1) = true) (hc:Region.chainB md ops (n + 1) = true) (hn:n + 1 < ops.size) :
    ∀ (l:List Oper) (k:Nat) (li:Array Bool) (a:Act),(∀ j,j < l.length → l[j]? = ops[k + j]?) → k + l.length = n → HeadInv md ops (n + 1) li → li.getD n true = false → (∀ j,j < k → li.getD j true = true) →
      Region.lexHead md ops g (l.length + 1) k li = true → wpG P ops w0 (fun a=>XA P ops o0 mk T cs a ∧ ∀ p,q p (a.put o0.dst p)) l a →
      HF P md ops w0 n o0 (XA P ops o0 mk T cs) (fun p li' a' => Region.seqB md ops g (n + 1) li' = true ∧ q p a') (l.length + 1) li a
  | [],k,li,a,_,hk,inv,hln,hall,hB,h=>by
    have hkn:k = n:=by simpa using hk
    subst hkn
    simp only [List.length_nil,Region.lexHead,Bool.and_eq_true] at hB
    obtain ⟨⟨hr,_⟩,hB'⟩:=hB
    have hr':k ∈ Region.ready md ops li:=by simpa using hr
    refine ⟨List.ne_nil_of_mem hr',fun j hj=>.inr ?_⟩
    have hjn:j < k + 1:=Nat.lt_of_not_le fun hle=>tail_waits hs hc hn inv _ k rfl (by omega) hln j hle hj
    have hjk:j = k:=by
      rcases Nat.lt_or_ge j k with h1 | h1
      · have h2:=(mem_ready.1 hj).1
        rw [hall j h1] at h2; cases h2
      · omega
    subst hjk
    exact ⟨Z,h.1,fun p=>⟨by simpa using hB',h.2 p⟩⟩
  | o :: l,k,li,a,hl,hk,inv,hln,hall,hB,h=>by
    have hok:ops[k]? = some o:=by simpa using (hl 0 (by simp)).symm
    simp only [List.length_cons] at hB
    rw [Region.lexHead] at hB
    simp only [Bool.and_eq_true] at hB
    obtain ⟨⟨hr,hf⟩,hB'⟩:=hB
    have hkn:k < n:=by simp only [List.length_cons] at hk; omega
    have hr':k ∈ Region.ready md ops li:=by simpa using hr
    obtain ⟨v,hy,hK⟩:=h
    refine HF.first hok h0 (Region.noSelect_spec hsel) hs hc hn hkn (fun _ _ _ hL=>seqB_ready hL.1) (l.length + 1) li a inv hln (Region.free_spec hok hf) hr' hy
      (HF.lex hsel h0 hs hc hn l (k + 1) _ _ (fun j hj=>by have:=hl (j + 1) (by simp; omega); simpa [Nat.add_assoc,Nat.add_comm 1 j] using this) (by simp only [List.length_cons] at hk; omega) (inv.set hr' (by omega)) (by rw [getD_set_ne true (by omega)]; exact hln) (fun j hj=>?_) hB' hK)
    by_cases hjk:k = j
    · subst hjk
      have hks:k < li.size:=by rw [inv.size]; omega
      simp [hks]
    · rw [getD_set_ne true hjk]; exact hall j (by omega)
theorem wp_float {id:Nat} {Q:Exit → Act → World → Prop} {a:Act} {w:World} {l:List Oper} (n:Nat) (o0:Oper) (mk:Nat → Value) (T:TypeId) (cs:List Value) (hm:P.follows .mixedOrders = true) (hB:Region.lexTailB .any l.toArray (n + 1) = true) (h0:l[n]? = some o0)
    (h : wpG P l.toArray w (fun a => XA P l.toArray o0 mk T cs a ∧ ∀ p, ∀ b w', p = mk b → w.heap.size ≤ b → w.grownBy w' none → Ob w' b T cs → wpList P l.toArray Q (l.drop (n + 1)) (a.put o0.dst p) w') (l.take n) a) : (Code.region id l.toArray true).wp P Q a w := by
  simp only [Region.lexTailB,Bool.and_eq_true,decide_eq_true_eq] at hB
  obtain ⟨⟨⟨⟨hsel,hn⟩,hs⟩,hc⟩,hlex⟩:=hB
  have hn':n + 1 < l.length:=by simpa using hn
  have htl:(l.take n).length = n:=by rw [List.length_take]; omega
  have inv0:HeadInv .any l.toArray (n + 1) (Array.replicate l.toArray.size false) :=
    ⟨by simp,fun j oj _ hl=>(by rw [getD_replicate_false] at hl; cases hl),fun t _ ht=>getD_in (by simpa using ht) (getD_replicate_false _ _)⟩
  have h0':l.toArray[n]? = some o0:=by simpa using h0
  have key := HF.lex (P := P) (w0 := w) (g := l.toArray.size - (n + 1)) (mk := mk) (T := T) (cs := cs) (q := fun p a' => ∀ b w', p = mk b → w.heap.size ≤ b → w.grownBy w' none → Ob w' b T cs → wpList P l.toArray Q (l.drop (n + 1)) a' w')
    hsel h0' hs hc hn (l.take n) 0 (Array.replicate l.toArray.size false) a
    (fun j hj=>by rw [htl] at hj; simp [hj]) (by rw [Nat.zero_add,htl]) inv0 (getD_in (by simpa using (by omega:n < l.length)) (getD_replicate_false _ _)) (fun j hj=>by omega) (by rw [htl]; exact hlex) h
  rw [htl] at key
  refine wp_region_any hm ?_
  have hsz:l.toArray.size = (n + 1) + (l.toArray.size - (n + 1)):=by omega
  have hex : ∀ b li a w', w.heap.size ≤ b → w.grownBy w' none → Ob w' b T cs → (Region.seqB .any l.toArray (l.toArray.size - (n + 1)) (n + 1) li = true ∧ ∀ (b' : Nat) (w' : World), mk b = mk b' → w.heap.size ≤ b' → w.grownBy w' none → Ob w' b' T cs → wpList P l.toArray Q (l.drop (n + 1)) a w') → wpAny P .any l.toArray Q (l.toArray.size - (n + 1)) li a w' := by
    intro b li a w' hb hw ho hL
    have h2:=wpAny_of_seq (Q':=Q) (l.drop (n + 1)) (n + 1) li a w' (fun j=>by simp) (by simpa using hL.1) (hL.2 b w' rfl hb hw ho)
    simpa using h2
  have:=HF.any (w0:=w) (md:=.any) (mk:=mk) (T:=T) (cs:=cs) h0' hex (n + 1) _ a { w with drawn:=w.drawn + 1 } ⟨rfl,rfl,rfl,Nat.le_refl _,fun _ _ _=>rfl⟩ key
  rw [← hsz] at this
  exact this
end
section
variable {P:Program} {N:Nat} {Q Q':Exit → Da → World → Prop} {ρ:Da} {w:World} {ops:List Oper} {rest:List Oper} {o:Oper}
def QG (P:Program) (N:Nat) (ops:List Oper) (w0:World) (Q:Da → Prop) (l:List Oper) (ρ:Da):Prop :=
  ∀ a,EQ N a ρ → wpG P ops.toArray w0 (fun a => ∃ ρ,EQ N a ρ∧Q ρ) l a
theorem QG.nil {w0:World} {q:Da → Prop} (h:q ρ):QG P N ops w0 q [] ρ:=fun _ ha=>⟨ρ,ha,h⟩
theorem QG.go {w0:World} {q:Da → Prop} {d:Nat} {v:Value} (hd:o.dst = some d) (hg:gd ops ρ o = true) (hN:Nat.blt d N = true) (he : ∀ w,w0.grownBy w none → Ex P ρ o w v w)
    (h:QG P N ops w0 q rest (upd ρ d v)):QG P N ops w0 q (o :: rest) ρ:=fun a ha=>by
  refine ⟨v,.inl ⟨by rw [ha.wanted,hg],fun w hw=>?_⟩,by rw [hd]; exact h _ (ha.put hN v)⟩
  unfold Oper.quietAt
  rw [ha.eval,he w hw]
  exact ⟨Z,rfl⟩
theorem QG.out {w0:World} {q:Da → Prop} {d:Nat} (hd:o.dst = some d) (hg:gd ops ρ o = false) (hN:Nat.blt d N = true)
    (h:QG P N ops w0 q rest (upd ρ d undef)):QG P N ops w0 q (o :: rest) ρ:=fun a ha =>
  ⟨undef,.inr ⟨by rw [ha.wanted,hg],rfl⟩,by rw [hd]; exact h _ (ha.put hN undef)⟩
theorem QG.br {w0:World} {q:Da → Prop} {p:Prop} [Decidable p] {d:Nat} (hd:o.dst = some d) (hg:gd ops ρ o = true) (hN:Nat.blt d N = true) (he : ∀ r,decide p = r → ∀ w,w0.grownBy w none → Ex P ρ o w (.bool r) w)
    (ht:p → QG P N ops w0 q rest (upd ρ d (.bool true))) (hf : ¬ p → QG P N ops w0 q rest (upd ρ d (.bool false))):QG P N ops w0 q (o :: rest) ρ:=by
  by_cases h:p
  · exact QG.go hd hg hN (he true (decide_eq_true h)) (ht h)
  · exact QG.go hd hg hN (he false (decide_eq_false h)) (hf h)
theorem QG.call {w0:World} {q:Da → Prop} {f:FuncId} {al:List Operand} {l:List Value} {tys:Array TypeId} {ty:TypeId} {ps:String} {af:Array Edge} {gu:Option (Nat × Bool)} {d:Nat} {v:Value}
    (hc : ∀ (args:Array Value) (w:World),(callFunc f args).run P w = .ok (.enter f args) w) (hR : ∀ w,w0.grownBy w none → Ret P f l w fun u w'=>u = v∧w.grownBy w' none) (ha:al.map (ev ρ) = l)
    (hg:gd ops ρ ⟨some d,.call ⟨.value (.func f),al.toArray,tys⟩,ty,ps,af,gu⟩ = true) (hN:Nat.blt d N = true)
    (h:QG P N ops w0 q rest (upd ρ d v)):QG P N ops w0 q (⟨some d,.call ⟨.value (.func f),al.toArray,tys⟩,ty,ps,af,gu⟩ :: rest) ρ:=fun a hq=>by
  refine ⟨v,.inl ⟨by rw [hq.wanted,hg],fun w hw=>?_⟩,h _ (hq.put hN v)⟩
  unfold Oper.quietAt
  rw [hq.eval,run_call hc ha]
  exact ⟨Z,Calls.mono (hR w hw) fun e w' ⟨u,h1,h2,h3⟩=>⟨by rw [h1,h2],h3⟩⟩
def XE (P:Program) (ops:List Oper) (ρ:Da) (o0:Oper) (mk:Nat → Value) (T:TypeId) (cs:List Value):Prop :=
  gd ops ρ o0 = true ∧ ∀ w,(execOp (ev ρ) o0).run P w = .ok (.value (mk w.heap.size)) (w.alloc (.cells cs.toArray T))
theorem CW.float {id:Nat} (n:Nat) (o0:Oper) (mk:Nat → Value) (T:TypeId) (cs:List Value) {d0:Nat} (hm:P.follows .mixedOrders = true) (hB:Region.lexTailB .any ops.toArray (n + 1) = true) (h0:ops[n]? = some o0) (hd:o0.dst = some d0) (hN:Nat.blt d0 N = true)
    (h : QG P N ops w (fun ρ' => XE P ops ρ' o0 mk T cs ∧ ∀ b w', w.heap.size ≤ b → w.grownBy w' none → Ob w' b T cs → RL P N ops Q (ops.drop (n + 1)) (upd ρ' d0 (mk b)) w') (ops.take n) ρ) : CW P N (.region id ops.toArray true) Q ρ w := fun a ha =>
  wp_float n o0 mk T cs hm hB h0 (by
    have h1:=h a ha
    have mono : ∀ (l : List Oper) (a : Act), wpG P ops.toArray w (fun a => ∃ ρ, EQ N a ρ ∧ XE P ops ρ o0 mk T cs ∧ ∀ b w', w.heap.size ≤ b → w.grownBy w' none → Ob w' b T cs → RL P N ops Q (ops.drop (n + 1)) (upd ρ d0 (mk b)) w') l a →
        wpG P ops.toArray w (fun a => XA P ops.toArray o0 mk T cs a ∧ ∀ p, ∀ b w', p = mk b → w.heap.size ≤ b → w.grownBy w' none → Ob w' b T cs → wpList P ops.toArray (lft N Q) (ops.drop (n + 1)) (a.put o0.dst p) w') l a := by
      intro l
      induction l with
      | nil =>
        rintro a ⟨ρ,h2,h3,h4⟩
        refine ⟨⟨by rw [h2.wanted]; exact h3.1,fun w=>by rw [h2.eval]; exact h3.2 w⟩,fun p b w' hp hb hw ho=>?_⟩
        subst hp
        rw [hd]
        exact h4 b w' hb hw ho _ (h2.put hN _)
      | cons o l ih =>
        rintro a ⟨v,h2,h3⟩
        exact ⟨v,h2,ih _ h3⟩
    exact mono _ _ h1)
theorem XE.al {t:TypeId} {d:Option Tmp} {ty:TypeId} {ps:String} {af:Array Edge} {gu:Option (Nat × Bool)} {zv:Value} {cs:List Value} (hz : ∀ w:World,(zeroValue t).run P w = .ok zv w) (hcs:zv.cells = cs.toArray) (hg:gd ops ρ ⟨d,.alloc t,ty,ps,af,gu⟩ = true) :
    XE P ops ρ ⟨d,.alloc t,ty,ps,af,gu⟩ (fun b=>.pointer (some ⟨b,0,none⟩)) t cs:=⟨hg,fun w=>by
  refine Cc ?_
  simp [Instr.alloc,hz,newVar,newRow,hcs]⟩
theorem XE.bx {t:TypeId} {d:Option Tmp} {ty:TypeId} {ps:String} {af:Array Edge} {gu:Option (Nat × Bool)} {x:Operand} {cs:List Value} (hx:(ev ρ x).cells = cs.toArray) (hg:gd ops ρ ⟨d,.box t x,ty,ps,af,gu⟩ = true) :
    XE P ops ρ ⟨d,.box t x,ty,ps,af,gu⟩ (fun b=>.pointer (some ⟨b,0,none⟩)) t cs:=⟨hg,fun w=>by
  refine Cc ?_
  simp [Instr.box,newVar,newRow,hx]⟩
theorem XE.bs {t e:TypeId} {k n:Nat} {d:Option Tmp} {ty:TypeId} {ps:String} {af:Array Edge} {gu:Option (Nat × Bool)} {parts:List (Nat × Operand)} {zc cs:List Value} (ht:P.underlying t = some (.slice e)) (hs : ∀ w:World,(sizeOf e).run P w = .ok k w)
    (hz : ∀ w:World, ∃ zv:Value,(zeroValue e).run P w = .ok zv w∧zv.cells = zc.toArray) (hsm:Nat.ble (n * k) 16777216 = true) (hpos:Nat.blt 0 (n * k) = true)
    (hf:fil ((List.range n).map fun i=>(i * k,k)) ((List.range (n * k)).map fun i=>zc.getD (i % zc.length) undef) (parts.map fun px=>(px.1,ev ρ px.2)) = some cs) (hzk:0 < zc.length)
    (hin:parts.all (fun px=>Nat.blt px.1 n) = true) (hg:gd ops ρ ⟨d,.buildSlice t n parts.toArray,ty,ps,af,gu⟩ = true) :
    XE P ops ρ ⟨d,.buildSlice t n parts.toArray,ty,ps,af,gu⟩ (fun b=>.slice (some ⟨b,0,none⟩) n n) e cs:=by
  refine ⟨hg,fun w=>?_⟩
  refine Cc ?_
  obtain ⟨zv,hzv,hzc⟩:=hz w
  have hsm' : ¬ (n * k > 2 ^ 24):=by have:=Nat.le_of_ble_eq_true hsm; omega
  have hpos' : ¬ (n * k = 0) := by have : 0 < n * k := by simpa using hpos
                                   omega
  have hf2:=fill_fil ((List.range n).map fun i=>(i * k,k)) (parts.map fun px=>(px.1,ev ρ px.2)) ((List.range (n * k)).map fun i=>zc.getD (i % zc.length) undef)
  rw [hf] at hf2
  have key : ∀ (l:List (Nat × Value)) (z:Array Value),(∀ px ∈ l,px.1 < n) →
      Instr.fill (fun i=>some (i * k,k)) z l = Instr.fill (((List.range n).map fun i=>(i * k,k)).toArray[·]?) z l:=by
    intro l
    induction l with
    | nil=>intro z _; rfl
    | cons px l ih =>
      intro z hl
      obtain ⟨i,v⟩:=px
      have hi:i < n:=hl (i,v) (by simp)
      have e1:(((List.range n).map fun i=>(i * k,k)).toArray[i]?) = some (i * k,k):=by simp [hi]
      unfold Instr.fill
      simp only [e1]
      split
      · rfl
      · exact ih _ (fun px hpx=>hl px (by simp [hpx]))
  have harr:((Array.range (n * k)).map fun x=>zv.cells[x % zv.cells.size]!) = ((List.range (n * k)).map fun i=>zc.getD (i % zc.length) undef).toArray:=by
    apply Array.ext'
    simp only [Array.toList_map,Array.toList_range]
    refine List.map_congr_left fun i _=>?_
    rw [hzc]
    have hm:i % zc.length < zc.length:=Nat.mod_lt _ hzk
    simp [hm]
  simp only [Instr.buildSlice,Sem.run_bind,run_underlying ht,Result.andThen_ok,hs,if_neg hsm',if_neg hpos',Sem.run_pure,hzv]
  rw [harr]
  have hl:((parts.toArray.map fun (x:Nat × Operand)=>match x with | (i,x)=>(i,ev ρ x)):Array (Nat × Value)).toList = parts.map fun px=>(px.1,ev ρ px.2):=by simp
  rw [hl,key _ _ (by
    intro px hpx
    obtain ⟨q,hq,rfl⟩:=List.mem_map.1 hpx
    have:=List.all_eq_true.1 hin q hq
    simpa using this),hf2]
  simp [newRow,newObj,Sem.run]
end
end Go.Eng
namespace Go.Eng
open Go Go.RowKit
structure HeapO (w:World) (base:Nat) (rh:RHeap) (ros:List RObj) (h:Heap):Prop where
  order:rh.order = h.order
  next:rh.next = h.next
  tops:[rh.t0,rh.t1,rh.t2,rh.t3] = h.tops
  on:rh.objs.n = ros.length
  om:rh.objs.n ≤ 256
  orow:Ow w base 136 5 rh.objs.a rh.objs.c (Cp ros)
  objs:ObjsO w base ros h.objs
  osm : ∀ o ∈ h.objs,o.words.length ≤ 32∧o.links.length ≤ 16
  fn:rh.free.n = h.free.length
  fm:rh.free.n ≤ 511
  frow:Wr w base 133 2 rh.free.a rh.free.n rh.free.c (Cq h.free)
theorem HeapO.st0 {w w':World} {base:Nat} {rh:RHeap} {ros:List RObj} {h:Heap} (H:HeapO w base rh ros h) (g:w.grownBy w' none):HeapO w' base rh ros h :=
  ⟨H.order,H.next,H.tops,H.on,H.om,H.orow.st0 g,H.objs.st0 g,H.osm,H.fn,H.fm,H.frow.st0 g⟩
theorem HeapO.stX {w0 w w':World} {base b:Nat} {rh:RHeap} {ros:List RObj} {h:Heap} (H:HeapO w base rh ros h) (H0:HeapO w0 base rh ros h) (g:w.grownBy w' (some b)) (hb:b < base ∨ w0.heap.size ≤ b):HeapO w' base rh ros h :=
  ⟨H.order,H.next,H.tops,H.on,H.om,H.orow.st1 g (H0.orow.ne_or hb),H.objs.stX H0.objs g hb,H.osm,H.fn,H.fm,H.frow.st1 g (H0.frow.ne_or hb)⟩
theorem HeapO.weak {w:World} {base base':Nat} {rh:RHeap} {ros:List RObj} {h:Heap} (H:HeapO w base rh ros h) (hb:base' ≤ base):HeapO w base' rh ros h :=
  ⟨H.order,H.next,H.tops,H.on,H.om,H.orow.weak hb,H.objs.weak hb,H.osm,H.fn,H.fm,H.frow.weak hb⟩
theorem ObjO.r {w:World} {base:Nat} {ro:RObj} {o:Obj} (h:ObjO w base ro o) (hs:o.words.length ≤ 32∧o.links.length ≤ 16):ObjR w w.heap.size ro o :=
  ⟨h.h,h.b,h.wl,h.ll,by have:=h.wl; omega,by have:=h.ll; omega,h.ow.rd,h.ol.rd⟩
theorem HeapO.r {w:World} {base:Nat} {rh:RHeap} {ros:List RObj} {h:Heap} (H:HeapO w base rh ros h):HeapR w w.heap.size rh ros h :=
  ⟨H.order,H.next,H.tops,⟨H.objs.len,H.on,by have:=H.om; omega,H.orow.rd,fun i ro o h1 h2=>(H.objs.all i ro o h1 h2).r (H.osm o (List.mem_of_getElem? h2))⟩,H.fn,by have:=H.fm; omega,H.frow.rd⟩
theorem rdObj_some {bs rest:List UInt8} {o:Obj} (h:rdObj bs = some (o,rest)):o.words.length ≤ 32∧o.links.length ≤ 16∧0 ≤ o.blk.at_∧o.blk.at_ ≤ 2147483647:=by
  unfold rdObj at h
  split at h
  · cases h
  · split at h
    · cases h
    · rename_i a r2 ha
      split at h
      · cases h
      · rename_i nw r3 hnw
        split at h
        · cases h
        · rename_i nl r4 hnl
          split at h
          · cases h
          · rename_i hneed
            have hr:=needI_rng (a:=nw) (b:=nl) (by omega)
            split at h
            · cases h
            · rename_i ws r5 hws
              split at h
              · cases h
              · rename_i ls r6 hls
                simp only [Option.some.injEq,Prod.mk.injEq] at h
                obtain ⟨rfl,rfl⟩:=h
                have h1:=rdL_len hws
                have h2:=rdL_len hls
                have h3:=Dh ha
                exact ⟨by show ws.length ≤ 32; omega,by show ls.length ≤ 16; omega,by show 0 ≤ a; omega,by show a ≤ 2147483647; omega⟩
theorem rdL_all {α:Type} {rd:List UInt8 → Option (α × List UInt8)} {p:α → Prop} (hp : ∀ bs x r,rd bs = some (x,r) → p x) : ∀ {k:Nat} {bs r:List UInt8} {l:List α},rdL rd k bs = some (l,r) → ∀ x ∈ l,p x
  | 0,bs,r,l,h=>by
    simp only [rdL,Option.some.injEq,Prod.mk.injEq] at h
    rw [← h.1]; intro x hx; cases hx
  | k + 1,bs,r,l,h=>by
    unfold rdL at h
    split at h
    · cases h
    · rename_i l' r' h1
      split at h
      · cases h
      · rename_i x r2 h2
        simp only [Option.some.injEq,Prod.mk.injEq] at h
        intro y hy
        rw [← h.1] at hy
        rcases List.mem_append.1 hy with hy | hy
        · exact rdL_all hp h1 y hy
        · simp at hy; subst hy; exact hp _ _ _ h2
theorem ObjsO.blk_ge {w:World} {base:Nat} {ros:List RObj} {os:List Obj} (h:ObjsO w base ros os):ros.map RObj.blk = os.map Obj.blk:=by
  apply List.ext_getElem?
  intro i
  simp only [List.getElem?_map]
  cases h1:ros[i]? with
  | none =>
    rw [List.getElem?_eq_none_iff] at h1
    rw [List.getElem?_eq_none (by rw [← h.len]; exact h1)]; rfl
  | some ro =>
    have hi:i < os.length:=by rw [← h.len]; exact (List.getElem?_eq_some_iff.1 h1).1
    have h2:=List.getElem?_eq_getElem hi
    rw [h2]
    simp only [Option.map_some]
    rw [(h.all i ro _ h1 h2).b]
theorem ObjsO.at_ge {w:World} {base:Nat} {ros:List RObj} {os:List Obj} (h:ObjsO w base ros os) (hp : ∀ o ∈ os,0 ≤ o.blk.at_) : ∀ x ∈ ros,0 ≤ x.blk.at_:=by
  intro x hx
  have:x.blk ∈ ros.map RObj.blk:=List.mem_map.2 ⟨x,hx,rfl⟩
  rw [h.blk_ge] at this
  obtain ⟨o,ho,he⟩:=List.mem_map.1 this
  rw [← he]; exact hp o ho
def rdHeap (bs:List UInt8):Option (Heap × List UInt8) :=
  match rdN bs with
  | none=>none
  | some (order,r1)=>match rdN r1 with
    | none=>none
    | some (next,r2)=>match rdN r2 with
      | none=>none
      | some (t0,r3)=>match rdN r3 with
        | none=>none
        | some (t1,r4)=>match rdN r4 with
          | none=>none
          | some (t2,r5)=>match rdN r5 with
            | none=>none
            | some (t3,r6)=>match rdN r6 with
              | none=>none
              | some (k,r7)=>if k > 256 then none else match rdL rdObj k.toNat r7 with
                | none=>none
                | some (os,r8)=>if Az order 3 8 = false then none else
                  if Dc ⟨order,os,next,t0,t1,t2,t3,Dq (Af order) (os.map Obj.blk) [⟨0,order⟩]⟩ = false then none else
                  some (⟨order,os,next,t0,t1,t2,t3,Dq (Af order) (os.map Obj.blk) [⟨0,order⟩]⟩,r8)
end Go.Eng
namespace Go.Eng
def getHeap (bs:List UInt8):Option Heap:=match rdHeap bs with
  | some (h,[])=>some h
  | _=>none
def zHeap:List Value:=[.int .i64 0,.slice none 0 0,.int .i64 0,.int .i64 0,.int .i64 0,.int .i64 0,.int .i64 0,.slice none 0 0]
end Go.Eng
namespace Go.Eng
open Go Go.RowKit
theorem rdT_len {bs t r:List UInt8} (h:rdT bs = some (t,r)):t.length ≤ 65536:=by
  unfold rdT at h
  split at h
  · cases h
  · rename_i n rest hn
    have:=Dh hn
    split at h
    · cases h
    · split at h
      · cases h
      · simp only [Option.some.injEq,Prod.mk.injEq] at h
        rw [← h.1,List.length_take]; omega
def rowsB:Int → List Row → Bool
  | _,[]=>true
  | last,x :: l=>decide (last < x.client) && decide (x.client ≤ 4) && decide (1 ≤ x.seq) && decide (x.seq ≤ 1000000) && decide (0 ≤ x.code) && decide (x.code ≤ 65535) && rowsB x.client l
def Cy (s:State):Bool:=Dc s.heap && rowsB 0 s.rows
structure StateR (w:World) (B:Nat) (rs:RState) (ros:List RObj) (s:State):Prop where
  heap:HeapR w B rs.heap ros s.heap
  rn:rs.rows.n = s.rows.length
  rm:rs.rows.n ≤ 140737488351232
  rr:Rd w B 4 rs.rows.a (rows s.rows)
structure StateO (w:World) (base:Nat) (rs:RState) (ros:List RObj) (s:State):Prop where
  heap:HeapO w base rs.heap ros s.heap
  rn:rs.rows.n = s.rows.length
  rm:rs.rows.n ≤ 4
  rr:Ow w base 123 4 rs.rows.a rs.rows.c (rows s.rows)
theorem StateR.st0 {w w':World} {B:Nat} {rs:RState} {ros:List RObj} {s:State} (h:StateR w B rs ros s) (g:w.grownBy w' none):StateR w' B rs ros s:=⟨h.heap.st0 g,h.rn,h.rm,h.rr.st0 g⟩
theorem StateR.st1 {w w':World} {B b:Nat} {rs:RState} {ros:List RObj} {s:State} (h:StateR w B rs ros s) (g:w.grownBy w' (some b)) (hB:B ≤ b):StateR w' B rs ros s:=⟨h.heap.st1 g hB,h.rn,h.rm,h.rr.st1 g hB⟩
theorem StateO.st0 {w w':World} {base:Nat} {rs:RState} {ros:List RObj} {s:State} (h:StateO w base rs ros s) (g:w.grownBy w' none):StateO w' base rs ros s:=⟨h.heap.st0 g,h.rn,h.rm,h.rr.st0 g⟩
theorem StateO.stX {w0 w w':World} {base b:Nat} {rs:RState} {ros:List RObj} {s:State} (h:StateO w base rs ros s) (h0:StateO w0 base rs ros s) (g:w.grownBy w' (some b)) (hb:b < base ∨ w0.heap.size ≤ b):StateO w' base rs ros s :=
  ⟨h.heap.stX h0.heap g hb,h.rn,h.rm,h.rr.st1 g (h0.rr.ne_or hb)⟩
theorem StateO.weak {w:World} {base base':Nat} {rs:RState} {ros:List RObj} {s:State} (h:StateO w base rs ros s) (hb:base' ≤ base):StateO w base' rs ros s:=⟨h.heap.weak hb,h.rn,h.rm,h.rr.weak hb⟩
theorem StateO.r {w:World} {base:Nat} {rs:RState} {ros:List RObj} {s:State} (h:StateO w base rs ros s):StateR w w.heap.size rs ros s:=⟨h.heap.r,h.rn,by have:=h.rm; omega,h.rr.rd⟩
theorem In.upd {w w' : World} {B ib rb n c n' c' : Nat} {bs bs' : List UInt8} {A A' : Option Addr} (h : In w B ib rb bs A n c) (g : w.grownBy w' (some rb)) (q : Rdr w' B rb bs' A' n' c') : In w' B ib rb bs' A' n' c' := ⟨q, h.inb.st1 g h.ne, h.ne, h.lti⟩
def rdState (bs:List UInt8):Option (State × List UInt8) :=
  match rdT bs with
  | none=>none
  | some (t,r1)=>match getHeap t with
    | none=>none
    | some h=>match rdN r1 with
      | none=>none
      | some (k,r2)=>if k > 4 then none else match rdL rdRow k.toNat r2 with
        | none=>none
        | some (l,r3)=>if Cy ⟨h,l⟩ = false then none else some (⟨h,l⟩,r3)
def Dn (bs:List UInt8):Option State:=match rdState bs with
  | some (s,[])=>some s
  | _=>none
def zState:List Value:=zHeap ++ [.slice none 0 0]
end Go.Eng
namespace Go.Eng
open Go Go.RowKit
def ents (l:List Entry):List (List Value):=l.map Entry.cells
theorem Ap (l:List Entry):(ents l).length = l.length:=by simp [ents]
theorem Di {l:List Entry} {k:Nat} {b:Entry} (h:l[k]? = some b):(ents l)[k]? = some b.cells:=by simp [ents,h]
theorem ents_one (l:List Entry) : ∀ u ∈ (ents l).flatten,Value.oneCell' u = true:=one_map (by intro x u hu; simp [Entry.cells] at hu; rcases hu with rfl | rfl | rfl | rfl | rfl | rfl | rfl | rfl | rfl | rfl | rfl <;> rfl) l
theorem ents_app (l m:List Entry):ents (l ++ m) = ents l ++ ents m:=by simp [ents]
theorem ents_take (l:List Entry) (k:Nat):(ents l).take k = ents (l.take k):=by simp [ents]
theorem ents_drop (l:List Entry) (k:Nat):(ents l).drop k = ents (l.drop k):=by simp [ents]
def zOp:Op:=⟨0,0,0,0,0,0,0⟩
def mayE (e:Entry):Bool :=
  Az e.num 1 900000000 && Az e.view 0 900000000 && (if e.client = 0 then decide (e.seq = 0) && decide (e.op = zOp) else Az e.client 1 4 && Az e.seq 1 1000000)
theorem op_eq {a:Op} {k h i n p v t:Int} : (a = ⟨k,h,i,n,p,v,t⟩) ↔ (a.kind = k∧a.h = h∧a.i = i∧a.n = n∧a.k = p∧a.v = v∧a.t = t):=by cases a; simp
def entsB (normal:Int):Int → List Entry → Bool
  | _,[]=>true
  | view,e :: l=>mayE e && Az e.view view normal && entsB normal e.view l
def Cn (k:Kept):Bool :=
  Az k.view 0 900000000 && Az k.normal 0 k.view && Az k.base 0 900000000 && decide (k.ents.length ≤ 4000) && follB k.ents k.base && entsB k.normal 0 k.ents && (Dn k.image).isSome
structure KeptR (w:World) (B:Nat) (rk:RKept) (k:Kept):Prop where
  view:rk.view = k.view
  normal:rk.normal = k.normal
  base:rk.base = k.base
  image:rk.image = tx k.image
  im:k.image.length ≤ 140737488351232
  en:rk.ents.n = k.ents.length
  em:rk.ents.n ≤ 1099511627776
  ec:rk.ents.n ≤ rk.ents.c
  er:Rd w B 11 rk.ents.a (ents k.ents)
theorem KeptR.st0 {w w':World} {B:Nat} {rk:RKept} {k:Kept} (h:KeptR w B rk k) (g:w.grownBy w' none):KeptR w' B rk k:=⟨h.view,h.normal,h.base,h.image,h.im,h.en,h.em,h.ec,h.er.st0 g⟩
theorem KeptR.st1 {w w':World} {B b:Nat} {rk:RKept} {k:Kept} (h:KeptR w B rk k) (g:w.grownBy w' (some b)) (hB:B ≤ b):KeptR w' B rk k:=⟨h.view,h.normal,h.base,h.image,h.im,h.en,h.em,h.ec,h.er.st1 g hB⟩
theorem KeptR.stO {w w':World} {B base e k2 c n:Nat} {rk:RKept} {k:Kept} {A:Option Addr} {xss:List (List Value)} (h:KeptR w B rk k) (g:w.grownBy w' (Value.slice A n c).ownBlock) (own:Ow w base e k2 A c xss) (hB:B ≤ base):KeptR w' B rk k:=⟨h.view,h.normal,h.base,h.image,h.im,h.en,h.em,h.ec,h.er.stO g own hB⟩
def Dm (k:Kept):Int:=k.base + k.ents.length
theorem entsB_go {nm v:Int} {es:List Entry} {e:Entry} {k:Nat} {X:Bool} (h:entsB nm v (es.drop k) = X) (he:es[k]? = some e) (h1:mayE e = true) (h2:Az e.view v nm = true):entsB nm e.view (es.drop (k + 1)) = X:=by
  rw [← h,Bp he,entsB,h1,h2]; simp
theorem entsB_no {nm v:Int} {es:List Entry} {e:Entry} {k:Nat} {X:Bool} (h:entsB nm v (es.drop k) = X) (he:es[k]? = some e) (h1:mayE e = false ∨ Az e.view v nm = false):X = false:=by
  rw [← h,Bp he,entsB]
  rcases h1 with h1 | h1
  · simp [h1]
  · simp [h1]
theorem entsB_end {nm v:Int} {es:List Entry} {k:Nat} {X:Bool} (h:entsB nm v (es.drop k) = X) (hk:es.length ≤ k):X = true:=by
  rw [← h,List.drop_eq_nil_of_le hk,entsB]
end Go.Eng
namespace Go.Eng
open Go Go.RowKit
section
variable {P:Program} {N:Nat} {Q Q':Exit → Da → World → Prop} {ρ:Da} {w:World}
def jm (l:Nat) (A:Da → World → Prop) (Q:Exit → Da → World → Prop):Exit → Da → World → Prop
  | .goto l',ρ,w=>l' = l∧A ρ w
  | e,ρ,w=>Q e ρ w
theorem jm.g {l:Nat} {A:Da → World → Prop} (h:A ρ w):jm l A Q (.goto l) ρ w:=⟨rfl,h⟩
theorem jm.n {l:Nat} {A:Da → World → Prop} (h:Q .normal ρ w):jm l A Q .normal ρ w:=h
theorem jm.r {l:Nat} {A:Da → World → Prop} (h:Q .ret ρ w):jm l A Q .ret ρ w:=h
theorem jm.p {l:Nat} {A:Da → World → Prop} {c:List PanicEntry} (h:Q (.panic c) ρ w):jm l A Q (.panic c) ρ w:=h
theorem jm.x {l i:Nat} {A:Da → World → Prop} (h:Q (.exit i) ρ w):jm l A Q (.exit i) ρ w:=h
theorem cM {A:Da → World → Prop} {l:Nat} (h:Q (.goto l) ρ w):thn A Q (.goto l) ρ w:=h
theorem inB.g {i l:Nat} (h:Q (.goto l) ρ w):inB i Q (.goto l) ρ w:=h
theorem CW.goto {l:Nat} (h:Q (.goto l) ρ w):CW P N (.goto l) Q ρ w:=fun _ ha=>wp_goto ⟨ρ,ha,h⟩
theorem CW.scope {c rest : Code} {l : Nat} (hf : findLabel c l = some rest) (hQ : ∀ l' ρ w, ¬ Q (.goto l') ρ w) (h : CW P N c (jm l (CW P N rest Q) Q) ρ w) : CW P N (.scope c) Q ρ w := fun a ha =>
  wp_scope_jumps l (fun a w => ∃ ρ,EQ N a ρ∧CW P N rest Q ρ w) (fun _ _=>0) hf
    (wp_mono (h a ha) (by
      rintro e a' w' ⟨ρ',h1,h2⟩
      cases e with
      | goto l'=>exact ⟨h2.1,ρ',h1,h2.2⟩
      | _=>exact ⟨ρ',h1,h2⟩))
    (by
      rintro a' w' ⟨ρ',h1,h2⟩
      refine wp_mono (h2 a' h1) ?_
      rintro e a2 w2 ⟨ρ2,h3,h4⟩
      cases e with
      | goto l'=>exact absurd h4 (hQ l' ρ2 w2)
      | _=>exact ⟨ρ2,h3,h4⟩)
end
end Go.Eng
namespace Go.Eng
open Go Go.RowKit
theorem keptB_t {k:Kept} (h:Cn k = true):0 ≤ k.view∧k.view ≤ 900000000∧0 ≤ k.normal∧k.normal ≤ k.view∧0 ≤ k.base∧k.base ≤ 900000000∧k.ents.length ≤ 4000∧follB k.ents k.base = true∧entsB k.normal 0 k.ents = true∧(Dn k.image).isSome = true:=by
  unfold Cn at h
  simp only [Bool.and_eq_true,decide_eq_true_eq] at h
  obtain ⟨⟨⟨⟨⟨⟨h1,h2⟩,h3⟩,h4⟩,h5⟩,h6⟩,h7⟩:=h
  have a1:=Bh h1
  have a2:=Bh h2
  have a3:=Bh h3
  exact ⟨a1.1,a1.2,a2.1,a2.2,a3.1,a3.2,h4,h5,h6,h7⟩
def lastOf (k:Kept):Int:=if Cn k then Dm k else 0
end Go.Eng
namespace Go.Eng
def newHeap (order:Int):Heap:=⟨order,[],1,0,0,0,0,[⟨0,order⟩]⟩
theorem newHeap_ok {o:Int} (h:Az o 3 8 = true):Dc (newHeap o) = true:=by
  have:=Bh h
  have hc:o = 3 ∨ o = 4 ∨ o = 5 ∨ o = 6 ∨ o = 7 ∨ o = 8:=by omega
  rcases hc with rfl | rfl | rfl | rfl | rfl | rfl <;> decide
theorem HeapO.new {w:World} {base b:Nat} {o:Int} (h:Ob w b 133 [.int .i64 0,.int .i64 o]) (hb:base ≤ b):HeapO w base ⟨o,⟨none,0,0⟩,1,0,0,0,0,⟨some ⟨b,0,none⟩,1,1⟩⟩ [] (newHeap o) :=
  ⟨rfl,rfl,rfl,rfl,Nat.zero_le _,Ow.nil_ _ _ _ _,ObjsO.nil_ _ _,by simp [newHeap],rfl,by show 1 ≤ 511; omega,Wr.of_ob h rfl hb⟩
theorem StateO.new {w:World} {base:Nat} {rh:RHeap} {ros:List RObj} {h:Heap} (H:HeapO w base rh ros h):StateO w base ⟨rh,⟨none,0,0⟩⟩ ros ⟨h,[]⟩:=⟨H,rfl,Nat.zero_le _,Ow.nil_ _ _ _ _⟩
end Go.Eng
