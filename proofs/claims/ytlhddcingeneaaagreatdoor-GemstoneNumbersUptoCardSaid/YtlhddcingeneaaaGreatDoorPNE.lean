import Derived.Below
import Derived.Orders
import Derived.StillTail
import Derived.KernelRfl
import Derived.LoopN
import Derived.Deep.LoopGhost
import Derived.Deep.AppendSrc
import Derived.Test.YtlhddcingeneaaaGreatDoorPNA
/- A checked evaluator of Go code over known blocks of memory: what it says of a function's code holds of every run,in whatever order the drawn regions come. No function of the program. -/
set_option linter.unusedVariables false
set_option linter.unusedSimpArgs false
set_option maxRecDepth 100000
set_option maxHeartbeats 8000000
namespace Go.Proofs.YtlhddcingeneaaaGreatDoor
open Go Go.RowKit
theorem kr {α:Type} {a b:α} (h:a=b:=by kernel_rfl):a=b:=h
theorem nle {a b:Nat} (h:Nat.ble a b=true:=by kernel_rfl):a≤b:=Nat.le_of_ble_eq_true h
structure Chg (l:List Nat) (w w':World):Prop where
 os:w'.os=w.os
 tape:w'.tape=w.tape
 output:w'.output=w.output
 size:w.heap.size≤w'.heap.size
 block:∀ k,k<w.heap.size→k ∉ l→w'.heap[k]?=w.heap[k]?
theorem Chg.refl (l:List Nat) (w:World):Chg l w w:=⟨rfl,rfl,rfl,Nat.le_refl _,fun _ _ _=>rfl⟩
theorem Chg.trans {l:List Nat} {a b c:World} (h:Chg l a b) (k:Chg l b c):Chg l a c :=
 ⟨k.os.trans h.os,k.tape.trans h.tape,k.output.trans h.output,Nat.le_trans h.size k.size,fun i hi hn=>(k.block i (Nat.lt_of_lt_of_le hi h.size) hn).trans (h.block i hi hn)⟩
theorem Chg.mono {l l':List Nat} {a b:World} (h:Chg l a b) (hl:∀ x,x ∈ l→x ∈ l'):Chg l' a b:=⟨h.os,h.tape,h.output,h.size,fun i hi hn=>h.block i hi (fun hm=>hn (hl i hm))⟩
theorem Chg.below {l:List Nat} {B:Nat} {a b:World} (h:Chg l a b) (hB:B≤a.heap.size) (hl:∀ x,x ∈ l→B≤x):Below B a b :=
 ⟨h.os,h.tape,h.output,h.size,fun i hi=>h.block i (by omega) (fun hm=>by have:=hl i hm;omega)⟩
theorem Chg.of_below {a b:World} (h:Below a.heap.size a b) (l:List Nat):Chg l a b:=⟨h.os,h.tape,h.output,h.size,fun i hi _=>h.block i hi⟩
def Hc (w:World) (b:Nat) (t:TypeId) (cs:Array Value):Prop:=w.heap[b]?=some (.cells cs t (0,0))
theorem Hc.lt {w:World} {b:Nat} {t:TypeId} {cs:Array Value} (h:Hc w b t cs):b<w.heap.size:=by
 unfold Hc at h
 exact (Array.getElem?_eq_some_iff.1 h).1
theorem Hc.chg {l:List Nat} {w w':World} {b:Nat} {t:TypeId} {cs:Array Value} (h:Hc w b t cs) (hc:Chg l w w') (hn:b ∉ l):Hc w' b t cs:=by
 unfold Hc at *;rw [hc.block b (Hc.lt h) hn];exact h
theorem Hc.push {w:World} {b:Nat} {t:TypeId} {cs:Array Value} (h:Hc w b t cs) (o:Obj):Hc { w with heap:=w.heap.push o } b t cs:=by
 have:=h.lt
 unfold Hc at *
 show (w.heap.push o)[b]?=_
 rw [Array.getElem?_push,if_neg (by omega)];exact h
theorem Hc.new (w:World) (t:TypeId) (cs:Array Value):Hc { w with heap:=w.heap.push (.cells cs t (0,0)) } w.heap.size t cs:=by
 unfold Hc;simp
theorem Hc.set {w:World} {b:Nat} {t:TypeId} {cs:Array Value} (h:Hc w b t cs) (i:Nat) (v:Value):Hc (w.setCell ⟨b,i,none⟩ v) b t (cs.setIfInBounds i v):=by
 have hlt:=h.lt
 unfold Hc at *
 have h':w.heap[b] = .cells cs t (0,0):=by simpa [Array.getElem?_eq_getElem hlt] using h
 show (w.heap.modify b _)[b]?=_
 rw [Array.getElem?_eq_getElem (by simpa using hlt),Array.getElem_modify_self,h']
 simp
theorem Chg.push (l:List Nat) (w:World) (o:Obj):Chg l w { w with heap:=w.heap.push o } :=
 ⟨rfl,rfl,rfl,by simp,fun k hk _=>by
  show (w.heap.push o)[k]?=_
  rw [Array.getElem?_push,if_neg (by omega)]⟩
theorem Chg.setCell {l:List Nat} (w:World) (b i:Nat) (v:Value) (hb:b ∈ l):Chg l w (w.setCell ⟨b,i,none⟩ v) :=
 ⟨rfl,rfl,rfl,by simp [World.setCell],fun k hk hn=>Below.heap_setCell _ _ _ _ (fun e=>hn (by rw [e];exact hb))⟩
def vmS {α:Type} (P:Program) (fr:Nat):Sem α→Array Value→Option (α × Array Value × Bool × Option (TypeId × Array Value) × List Nat)
 | .pure a,cs=>some (a,cs,false,none,[])
 | .load _ a k,cs=>match a.spot with
  | some _=>none
  | none=>match cs[a.off]? with
   | none=>none
   | some v=>match vmS P fr (k v) cs with
    | none=>none
    | some (x,cs',wr,n,l)=>some (x,cs',wr,n,a.block :: l)
 | .store _ a v k,cs=>match v with
  | .agg _=>none
  | .tuple _=>none
  | v=>match a.spot with
   | some _=>none
   | none=>match cs[a.off]? with
    | none=>none
    | some _=>match vmS P fr k (cs.setIfInBounds a.off v) with
     | none=>none
     | some (x,cs',_,n,l)=>some (x,cs',true,n,a.block :: l)
 | .new o k,cs=>match o with
  | .cells c t f=>match f with
   | (0,0)=>match vmS P fr (k fr) cs with
    | some (x,cs',wr,none,l)=>some (x,cs',wr,some (t,c),l)
    | _=>none
   | _=>none
  | _=>none
 | .program k,cs=>vmS P fr (k P) cs
 | .mark _ k,cs=>vmS P fr k cs
 | _,_=>none
theorem vmS_sound {α:Type} (P:Program) (fr b ty:Nat):∀ (t:Sem α) (cs:Array Value) x cs' wr nw l,vmS P fr t cs=some (x,cs',wr,nw,l)→∀ w:World,
  (l ≠ []→Hc w b ty cs)→(∀ y,y ∈ l→y=b)→(nw.isSome=true→fr=w.heap.size) →
  ∃ w',t.run P w = .ok x w'∧Chg (if wr then [b] else []) w w'∧(l ≠ []→Hc w' b ty cs')∧(∀ t' c',nw=some (t',c')→Hc w' fr t' c')∧(wr=true→l ≠ [])∧(wr=false→cs'=cs):=by
 intro t
 induction t with
 | pure a=>
  intro cs x cs' wr nw l h w hb hl hf
  simp only [vmS,Option.some.injEq,Prod.mk.injEq] at h
  obtain ⟨rfl,rfl,rfl,rfl,rfl⟩:=h
  exact ⟨w,rfl,Chg.refl _ _,fun h=>absurd rfl h,fun _ _ h=>(by cases h),fun h=>(by cases h),fun _=>rfl⟩
 | load m a k ih =>
  intro cs x cs' wr nw l h w hb hl hf
  simp only [vmS] at h
  split at h
  ·cases h
  ·rename_i hs
   split at h
   ·cases h
   ·rename_i v hv
    split at h
    ·cases h
    ·rename_i x1 cs1 wr1 n1 l1 h1
     simp only [Option.some.injEq,Prod.mk.injEq] at h
     obtain ⟨rfl,rfl,rfl,rfl,rfl⟩:=h
     have hab:=hl a.block (List.mem_cons_self)
     have hB:=hb (by simp)
     obtain ⟨w',h2,h3,h4,h5,h6,h7⟩:=ih v cs _ _ _ _ _ h1 w (fun _=>hB) (fun y hy=>hl y (List.mem_cons_of_mem _ hy)) hf
     have hc:w.cell? a=some v:=by
      obtain ⟨ab,ao,asp⟩:=a
      simp only at hs hab hv
      subst hs hab
      unfold Hc at hB
      simp only [World.cell?,hB,Option.isSome_none]
      exact hv
     refine ⟨w',?_,h3,fun _=>?_,h5,fun _=>by simp,h7⟩
     ·simp only [Sem.run,hc];exact h2
     ·by_cases hl1:l1 = []
      ·have hwr:wr1=false:=by
        cases hw:wr1 with
        | false=>rfl
        | true=>exact absurd hl1 (h6 hw)
       rw [h7 hwr]
       exact hB.chg h3 (by rw [hwr];simp)
      ·exact h4 hl1
 | store m a v k ih =>
  intro cs x cs' wr nw l h w hb hl hf
  simp only [vmS] at h
  split at h
  ·cases h
  ·cases h
  ·rename_i hn1 hn2
   split at h
   ·cases h
   ·rename_i hs
    split at h
    ·cases h
    ·rename_i v0 hv
     split at h
     ·cases h
     ·rename_i x1 cs1 wr1 n1 l1 h1
      simp only [Option.some.injEq,Prod.mk.injEq] at h
      obtain ⟨rfl,rfl,rfl,rfl,rfl⟩:=h
      have hab:=hl a.block (List.mem_cons_self)
      have hB:=hb (by simp)
      obtain ⟨ab,ao,asp⟩:=a
      simp only at hs hab hv
      subst hs hab
      have hc:w.cell? ⟨ab,ao,none⟩=some v0:=by
       unfold Hc at hB
       simp only [World.cell?,hB,Option.isSome_none]
       exact hv
      have hfz:w.frozen? ⟨ab,ao,none⟩=false:=by
       unfold Hc at hB
       simp [World.frozen?,hB]
      have hset:=hB.set ao v
      obtain ⟨w',h2,h3,h4,h5,h6,h7⟩:=ih _ _ _ _ _ _ h1 (w.setCell ⟨ab,ao,none⟩ v) (fun _=>hset) (fun y hy=>hl y (List.mem_cons_of_mem _ hy)) (fun h=>by rw [hf h];simp [World.setCell])
      refine ⟨w',?_,?_,fun _=>?_,h5,fun _=>by simp,fun h=>by cases h⟩
      ·cases v <;> first | exact absurd rfl (hn1 _) | exact absurd rfl (hn2 _) | (simp only [Sem.run,hc,hfz];exact h2)
      ·exact (Chg.setCell w ab ao v (by simp)).trans (h3.mono (by intro y hy;split at hy <;> simp_all))
      ·by_cases hl1:l1 = []
       ·have hwr:wr1=false:=by
         cases hw:wr1 with
         | false=>rfl
         | true=>exact absurd hl1 (h6 hw)
        rw [h7 hwr]
        exact hset.chg h3 (by rw [hwr];simp)
       ·exact h4 hl1
 | new o k ih =>
  intro cs x cs' wr nw l h w hb hl hf
  simp only [vmS] at h
  split at h
  ·rename_i c t f
   split at h
   ·rename_i x1
    split at h
    ·rename_i x2 cs2 wr2 l2 h1
     simp only [Option.some.injEq,Prod.mk.injEq] at h
     obtain ⟨rfl,rfl,rfl,rfl,rfl⟩:=h
     have hfr:=hf rfl
     obtain ⟨w',h2,h3,h4,h5,h6,h7⟩:=ih fr cs _ _ _ _ _ h1 { w with heap:=w.heap.push (.cells c t (0,0)) } (fun hne=>(hb hne).push _) hl (fun h=>by cases h)
     refine ⟨w',?_,(Chg.push _ w _).trans h3,h4,fun t' c' he=>?_,h6,h7⟩
     ·simp only [Sem.run];rw [← hfr];exact h2
     ·simp only [Option.some.injEq,Prod.mk.injEq] at he
      obtain ⟨rfl,rfl⟩:=he
      have hn:=Hc.new w t c
      rw [← hfr] at hn
      by_cases hw:wr2=true
      ·have hlt:=(hb (h6 hw)).lt
       refine hn.chg h3 (by rw [hw];simp;omega)
      ·refine hn.chg h3 (by simp [hw])
    ·cases h
   ·cases h
  ·cases h
 | program k ih =>
  intro cs x cs' wr nw l h w hb hl hf
  simp only [vmS] at h
  obtain ⟨w',h2,h3⟩:=ih P cs _ _ _ _ _ h w hb hl hf
  exact ⟨w',by simp only [Sem.run];exact h2,h3⟩
 | mark m k ih =>
  intro cs x cs' wr nw l h w hb hl hf
  simp only [vmS] at h
  obtain ⟨w',h2,h3⟩:=ih cs _ _ _ _ _ h w hb hl hf
  exact ⟨w',by simp only [Sem.run];exact h2,h3⟩
 | _=>intros;simp_all [vmS]
inductive Dec
 | t | f | u
 | p (b d:Bool) (h:b=d)
def Dec.val:Dec→Value
 | .t=>.bool true
 | .f=>.bool false
 | .u=>undef
 | .p b _ _=>.bool b
def Dec.go:Dec→Bool
 | .t=>true
 | .f=>false
 | .u=>false
 | .p _ d _=>d
def Dec.real:Dec→Bool
 | .u=>false
 | _=>true
def look {α:Type} (k:Nat):List (Nat × α)→Option α
 | []=>none
 | (a,x) :: l=>bif Nat.beq a k then some x else look k l
theorem look_append {α:Type} (k:Nat) (l m:List (Nat × α)):look k (l++m)=(look k l).or (look k m):=by
 induction l with
 | nil=>rfl
 | cons p l ih =>
  obtain ⟨a,x⟩:=p
  simp only [List.cons_append,look]
  cases Nat.beq a k <;> simp [ih]
theorem look_cons_eq {α:Type} (k:Nat) (x:α) (l:List (Nat × α)):look k ((k,x) :: l)=some x:=by
 simp [look]
theorem look_cons_ne {α:Type} {k a:Nat} (x:α) (l:List (Nat × α)) (h:a≠k):look k ((a,x) :: l)=look k l:=by
 have:Nat.beq a k=false:=by
  cases h':Nat.beq a k with
  | false=>rfl
  | true=>exact absurd (Nat.eq_of_beq_eq_true h') h
 simp [look,this]
theorem look_mem {α:Type} {k:Nat} {x:α} {l:List (Nat × α)} (h:look k l=some x):(k,x) ∈ l:=by
 induction l with
 | nil=>cases h
 | cons p l ih =>
  obtain ⟨a,y⟩:=p
  simp only [look] at h
  cases hb:Nat.beq a k with
  | true =>
   rw [hb] at h
   simp only [cond_true,Option.some.injEq] at h
   have:=Nat.eq_of_beq_eq_true hb
   subst this h
   exact List.mem_cons_self
  | false =>
   rw [hb] at h
   exact List.mem_cons_of_mem _ (ih h)
theorem look_none {α:Type} {k:Nat} {l:List (Nat × α)} (h:∀ p,p ∈ l→p.1≠k):look k l=none:=by
 cases hl:look k l with
 | none=>rfl
 | some x=>exact absurd rfl (h _ (look_mem hl))
abbrev Mem:=List (Nat × (TypeId × Array Value))
abbrev Env:=List (Nat × (Value × Nat))
def envV (env:Env) (t:Tmp):Value:=match look t env with
 | some (v,_)=>v
 | none=>undef
def rho (env:Env):Operand→Value
 | .tmp t=>envV env t
 | .const v=>v
 | .global g=>.pointer (some ⟨g,0,none⟩)
 | .func f=>.func (.func f) #[] #[]
def tagOf (env:Env):Operand→Nat
 | .tmp t=>match look t env with
  | some (_,g)=>g
  | none=>0
 | _=>0
def tag1 (env:Env):List Operand→Nat
 | []=>0
 | x :: l=>match tagOf env x with
  | 0=>tag1 env l
  | g=>g
structure Cx where
 w0:World
 L:List Nat
def Cx.Own (X:Cx) (b:Nat):Prop:=X.w0.heap.size≤b∨b ∈ X.L
theorem Chg.over {X:Cx} {l:List Nat} {w w':World} (h:Chg X.L X.w0 w) (h2:Chg l w w') (hl:∀ x,x ∈ l→X.Own x):Chg X.L X.w0 w' :=
 ⟨h2.os.trans h.os,h2.tape.trans h.tape,h2.output.trans h.output,Nat.le_trans h.size h2.size,fun k hk hn=>by
  rw [h2.block k (Nat.lt_of_lt_of_le hk h.size) (fun hm=>by
   rcases hl k hm with h3 | h3
   ·omega
   ·exact hn h3)]
  exact h.block k hk hn⟩
structure Pack (P:Program) (X:Cx) where
 f:FuncId
 key:Option Nat
 args:Nat→Array Value
 use:Nat→TypeId × Array Value
 upd:Option (Nat→Array Value)
 new:Nat→Option (TypeId × Array Value)
 tag:Nat→Nat
 res:Nat→Nat→Nat→Value
 ok:∀ (b:Nat) (w:World),Chg X.L X.w0 w→(key.isSome=true→X.Own b∧Hc w b (use b).1 (use b).2) →
  Calls P f (args b) w (fun e w'=>∃ n m,e = .returned (res b n m)∧(∀ t cs,new m=some (t,cs)→w.heap.size≤n∧Hc w' n t cs)∧(∀ g,upd=some g→Hc w' b (use b).1 (g b))∧Chg (if upd.isSome then [b] else []) w w')
def nextV:Next→Option Value
 | .value v=>some v
 | .skip=>some undef
 | _=>none
structure Look (P:Program) (X:Cx) where
 key:Option Nat
 use:Nat→TypeId × Array Value
 x:Nat→Sem Next
 upd:Option (Nat→Array Value)
 new:Nat→Option (TypeId × Array Value)
 tag:Nat→Nat
 v:Nat→Nat→Nat→Value
 ok:∀ (b:Nat) (w:World),Chg X.L X.w0 w→(key.isSome=true→X.Own b∧Hc w b (use b).1 (use b).2) →
  ∃ n m nx w',(x b).run P w = .ok nx w'∧nextV nx=some (v b n m)∧(∀ t cs,new m=some (t,cs)→w.heap.size≤n∧Hc w' n t cs)∧(∀ g,upd=some g→Hc w' b (use b).1 (g b))∧Chg (if upd.isSome then [b] else []) w w'
structure Duo (P:Program) (X:Cx) where
 k1:Option Nat
 k2:Nat
 use1:TypeId × Array Value
 use2:TypeId × Array Value
 x:Nat→Nat→Sem Next
 upd:Option (Array Value)
 new:Nat→Option (TypeId × Array Value)
 tag:Nat→Nat
 v:Nat→Nat→Nat→Value
 ok:∀ (b c:Nat) (w:World),Chg X.L X.w0 w→(k1.isSome=true→X.Own b∧Hc w b use1.1 use1.2)→Hc w c use2.1 use2.2 →
  ∃ n m nx w',(x b c).run P w = .ok nx w'∧nextV nx=some (v b n m)∧(∀ t cs,new m=some (t,cs)→w.heap.size≤n∧Hc w' n t cs)∧(∀ g,upd=some g→Hc w' b use1.1 g)∧Chg (if upd.isSome then [b] else []) w w'
structure Pack2 (P:Program) (X:Cx) where
 f:FuncId
 k1:Nat
 k2:Nat
 use1:TypeId × Array Value
 use2:TypeId × Array Value
 args:Nat→Nat→Array Value
 res:Value
 ok:∀ (b c:Nat) (w:World),Chg X.L X.w0 w→Hc w b use1.1 use1.2→Hc w c use2.1 use2.2→Calls P f (args b c) w (fun e w'=>e = .returned res∧Chg [] w w')
inductive Item (P:Program) (X:Cx)
 | call (p:Pack P X)
 | look (p:Look P X)
 | two (p:Duo P X)
 | call2 (p:Pack2 P X)
inductive Kd (P:Program) (X:Cx)
 | auto
 | pick (d:Dec)
 | call (p:Pack P X)
 | look (p:Look P X)
 | two (p:Duo P X)
 | call2 (p:Pack2 P X)
structure OpIn (P:Program) (X:Cx) where
 g:Option Dec
 k:Kd P X
structure ORes where
 v:Value
 tag:Nat
 wr:Mem
 tch:List Nat
abbrev Eqs:=List (Value × Value)
abbrev Seqs:=List (Sem Next × Sem Next)
def nv (n:Nat):Value:=.map (some n)
def wantOf (ops:Array Oper) (o:Oper) (g:Option Dec) (env:Env):Option (Bool × Eqs) :=
 match o.guard,g with
 | none,none=>some (true,[])
 | some (j,want),some d=>match (ops[j]?).bind (·.dst) with
  | some t=>some (d.real && (d.go == want),[(envV env t,d.val)])
  | none=>none
 | _,_=>none
def isLoad:Op→Bool
 | .load _ _=>true
 | _=>false
def isMove:Op→Option Operand
 | .move x=>some x
 | .assign x=>some x
 | _=>none
theorem isMove_run {P:Program} {ρ:Operand→Value} {o:Oper} {x:Operand} (h:isMove o.op=some x) (w:World):(execOp ρ o).run P w = .ok (.value (ρ x)) w:=by
 unfold isMove at h
 unfold execOp
 split at h
 ·rename_i y ho;cases h;rw [ho];rfl
 ·rename_i y ho;cases h;rw [ho];rfl
 ·cases h
theorem isMove_mem {o:Oper} {x:Operand} (h:isMove o.op=some x):x ∈ o.op.operands:=by
 unfold isMove at h
 split at h
 ·rename_i y ho;cases h;rw [ho];simp [Op.operands]
 ·rename_i y ho;cases h;rw [ho];simp [Op.operands]
 ·cases h
def tagO (env:Env):Op→Nat
 | .binOp _ _ _ _ _=>0
 | .unOp _ _ _=>0
 | op=>tag1 env op.operands.toList
def newWr (key:Nat):Option (TypeId × Array Value)→Mem
 | none=>[]
 | some x=>[(key,x)]
def updWr (k:Nat) (t:TypeId):Option (Array Value)→Mem
 | none=>[]
 | some c=>[(k,(t,c))]
def opTch {P:Program} {X:Cx} (ops:Array Oper) (o:Oper) (i:OpIn P X) (env:Env):List Nat :=
 match i.k with
 | .pick _=>[]
 | .call p=>p.key.toList
 | .look p=>p.key.toList
 | .two p=>p.k1.toList ++ [p.k2]
 | .call2 p=>[p.k1,p.k2]
 | .auto=>match isMove o.op with
  | some _=>[]
  | none=>match tagO env o.op with
   | 0=>[]
   | k+1=>[k]
abbrev Rn:=Nat→Nat × Nat
def rB (r:Rn):Nat→Nat:=fun k=>(r k).1
def opEvalW {P:Program} {X:Cx} (r:Rn) (key:Nat) (o:Oper) (k:Kd P X) (env:Env) (mem:Mem) (e:Eqs):Option (ORes × Eqs × Seqs) :=
 match k with
 | .pick d=>match o.op with
  | .pick c x y=>match d.real with
   | true=>some (⟨bif d.go then rho env x else rho env y,bif d.go then tagOf env x else tagOf env y,[],[]⟩,(rho env c,d.val) :: e,[])
   | false=>none
  | _=>none
 | .call p=>match vmS P 0 (execOp (rho env) o) #[] with
  | some (.enter f args,_,false,none,[])=>match p.key with
   | none=>match p.upd with
    | none=>some (⟨p.res 0 (r key).1 (r key).2,p.tag key,newWr key (p.new (r key).2),[]⟩,(nv f,nv p.f) :: (.tuple args,.tuple (p.args 0)) :: e,[])
    | some _=>none
   | some k=>match look k mem with
    | none=>none
    | some (t,cs)=>some (⟨p.res (r k).1 (r key).1 (r key).2,p.tag key,updWr k t (p.upd.map (· (r k).1))++newWr key (p.new (r key).2),[k]⟩,(nv f,nv p.f) :: (.tuple args,.tuple (p.args (r k).1)) :: (nv t,nv (p.use (r k).1).1) :: (.tuple cs,.tuple (p.use (r k).1).2) :: e,[])
  | _=>none
 | .look p=>match p.key with
  | none=>match p.upd with
   | none=>some (⟨p.v 0 (r key).1 (r key).2,p.tag key,newWr key (p.new (r key).2),[]⟩,e,[(execOp (rho env) o,p.x 0)])
   | some _=>none
  | some k=>match look k mem with
   | none=>none
   | some (t,cs)=>some (⟨p.v (r k).1 (r key).1 (r key).2,p.tag key,updWr k t (p.upd.map (· (r k).1))++newWr key (p.new (r key).2),[k]⟩,(nv t,nv (p.use (r k).1).1) :: (.tuple cs,.tuple (p.use (r k).1).2) :: e,[(execOp (rho env) o,p.x (r k).1)])
 | .two p=>match look p.k2 mem with
  | none=>none
  | some (t2,c2)=>match p.k1 with
   | none=>match p.upd with
    | none=>some (⟨p.v 0 (r key).1 (r key).2,p.tag key,newWr key (p.new (r key).2),[p.k2]⟩,(nv t2,nv p.use2.1) :: (.tuple c2,.tuple p.use2.2) :: e,[(execOp (rho env) o,p.x 0 (r p.k2).1)])
    | some _=>none
   | some k=>match look k mem with
    | none=>none
    | some (t,cs)=>some (⟨p.v (r k).1 (r key).1 (r key).2,p.tag key,updWr k t p.upd++newWr key (p.new (r key).2),[k,p.k2]⟩,(nv t,nv p.use1.1) :: (.tuple cs,.tuple p.use1.2) :: (nv t2,nv p.use2.1) :: (.tuple c2,.tuple p.use2.2) :: e,[(execOp (rho env) o,p.x (r k).1 (r p.k2).1)])
 | .call2 p=>match vmS P 0 (execOp (rho env) o) #[] with
  | some (.enter f args,_,false,none,[])=>match look p.k1 mem with
   | none=>none
   | some (t1,c1)=>match look p.k2 mem with
    | none=>none
    | some (t2,c2)=>some (⟨p.res,0,[],[p.k1,p.k2]⟩,(nv f,nv p.f) :: (.tuple args,.tuple (p.args (r p.k1).1 (r p.k2).1)) :: (nv t1,nv p.use1.1) :: (.tuple c1,.tuple p.use1.2) :: (nv t2,nv p.use2.1) :: (.tuple c2,.tuple p.use2.2) :: e,[])
  | _=>none
 | .auto=>match isMove o.op with
  | some x=>some (⟨rho env x,tagOf env x,[],[]⟩,e,[])
  | none=>match tagO env o.op with
   | 0=>match vmS P (r key).1 (execOp (rho env) o) #[] with
    | some (nx,_,false,nw,[])=>match nextV nx with
     | some v=>some (⟨v,match nw with | some _=>key+1 | none=>0,newWr key nw,[]⟩,e,[])
     | none=>none
    | _=>none
   | k+1=>match look k mem with
    | none=>none
    | some (t,cs)=>match vmS P (r key).1 (execOp (rho env) o) cs with
     | some (nx,cs',wr,nw,l)=>match nextV nx with
      | some v=>some (⟨v,match nw with | some _=>key+1 | none=>bif isLoad o.op then 0 else k+1,updWr k t (bif wr then some cs' else none)++newWr key nw,[k]⟩,l.map (fun b=>(nv b,nv (r k).1))++e,[])
      | none=>none
     | none=>none
def opEval {P:Program} {X:Cx} (r:Rn) (nt:Nat) (ops:Array Oper) (key:Nat) (o:Oper) (i:OpIn P X) (env:Env) (mem:Mem):Option (ORes × Eqs × Seqs) :=
 match (match o.dst with | some d=>Nat.blt d nt | none=>true) with
 | false=>none
 | true=>match wantOf ops o i.g env with
  | none=>none
  | some (false,e)=>some (⟨undef,0,[],opTch ops o i env⟩,e,[])
  | some (true,e)=>opEvalW r key o i.k env mem e
structure EnvOk (nt:Nat) (env:Env) (a:Act):Prop where
 defers:a.defers = []
 size:a.tmps.size=nt
 val:∀ t,a.tmps.getD t undef=envV env t
structure MemOk (X:Cx) (r:Nat→Nat) (mem:Mem) (w:World):Prop where
 below:Chg X.L X.w0 w
 has:∀ k x,look k mem=some x→Hc w (r k) x.1 x.2∧X.Own (r k)
 inj:∀ k k' x x',look k mem=some x→look k' mem=some x'→r k=r k'→k=k'
def updR (r:Rn) (key:Nat) (m:Nat × Nat):Rn:=fun k=>if k=key then m else r k
theorem updR_self (r:Rn) (key:Nat) (m:Nat × Nat):updR r key m key=m:=by simp [updR]
theorem updR_ne (r:Rn) {key k:Nat} {m:Nat × Nat} (h:k≠key):updR r key m k=r k:=by simp [updR,h]
theorem rB_self (r:Rn) (key:Nat) (m:Nat × Nat):rB (updR r key m) key=m.1:=by simp [rB,updR]
theorem rB_ne (r:Rn) {key k:Nat} {m:Nat × Nat} (h:k≠key):rB (updR r key m) k=(r k).1:=by simp [rB,updR,h]
theorem eval_rho {nt:Nat} {env:Env} {a:Act} (h:EnvOk nt env a):a.eval=rho env:=by
 funext x
 cases x with
 | tmp t=>exact h.val t
 | _=>rfl
theorem wantOf_sound {nt:Nat} {env:Env} {a:Act} {ops:Array Oper} {o:Oper} {g:Option Dec} {b:Bool} {e:Eqs} (h:EnvOk nt env a) (hw:wantOf ops o g env=some (b,e)) (he:∀ p,p ∈ e→p.1=p.2) :
  Region.wanted o (yielded ops a.tmps)=b:=by
 unfold wantOf at hw
 unfold Region.wanted
 split at hw
 ·simp only [Option.some.injEq,Prod.mk.injEq] at hw
  simp_all
 ·rename_i j want d hg
  split at hw
  ·rename_i t ht
   simp only [Option.some.injEq,Prod.mk.injEq] at hw
   obtain ⟨rfl,rfl⟩:=hw
   have h1:=he _ (List.mem_cons_self)
   simp only at h1
   have h2:=h.val t
   rw [h1] at h2
   simp only [hg]
   unfold yielded
   rw [ht]
   simp only [Option.bind_some]
   have h3:a.tmps.getD t undef=(a.tmps[t]?).getD undef:=by simp [Array.getD_eq_getD_getElem?]
   rw [h3] at h2
   cases hq:a.tmps[t]? with
   | none =>
    rw [hq] at h2
    simp only [Option.getD_none] at h2
    cases d <;> simp [Dec.val,undef,Dec.real,Dec.go] at h2 ⊢
   | some v =>
    rw [hq] at h2
    simp only [Option.getD_some] at h2
    subst h2
    cases d <;> simp [Dec.val,Dec.real,Dec.go,undef]
    rename_i b' d' hh
    subst hh
    cases want <;> simp
  ·cases hw
 ·cases hw
def Step (P:Program) (ops:Array Oper) (o:Oper) (a:Act) (w:World) (K:Act→World→Prop) (Q:Exit→Act→World→Prop):Prop :=
 if Region.wanted o (yielded ops a.tmps)=true then o.wp P a w K Q else K (a.put o.dst undef) w
structure After (r:Nat→Nat) (key:Nat) (wr:Mem) (w w':World):Prop where
 chg:Chg ((wr.map (·.1)).map r) w w'
 wrote:∀ p,p ∈ wr→Hc w' (r p.1) p.2.1 p.2.2
 new:∀ p,p ∈ wr→p.1=key→w.heap.size≤r key
theorem After.none {r:Nat→Nat} {key:Nat} {w w':World} (h:Chg [] w w'):After r key [] w w':=⟨h,fun _ h=>(by cases h),fun _ h=>(by cases h)⟩
theorem upon_nextV {P:Program} {o:Oper} {a:Act} {w':World} {K:Act→World→Prop} {Q:Exit→Act→World→Prop} {nx:Next} {v:Value} (h:nextV nx=some v) (hK:K (a.put o.dst v) w'):o.upon P a K Q (.ok nx w'):=by
 cases nx <;> simp only [nextV,Option.some.injEq] at h <;> first | (subst h;exact hK) | cases h
theorem opEval_sound {P:Program} {X:Cx} {r:Rn} {nt:Nat} {ops:Array Oper} {key:Nat} {o:Oper} {i:OpIn P X} {env env':Env} {mem:Mem} {a:Act} {w:World}
  {res:Nat × Nat→ORes} {es:Nat × Nat→Eqs} {ss:Nat × Nat→Seqs}
  (h:∀ m,opEval (updR r key m) nt ops key o i env mem=some (res m,es m,ss m)) (he:∀ m p,p ∈ es m→p.1=p.2) (hs:∀ m p,p ∈ ss m→p.1=p.2)
  (hE:EnvOk nt env' a) (hex:execOp (rho env') o=execOp (rho env) o) (hwt:wantOf ops o i.g env'=wantOf ops o i.g env)
  (hB:Chg X.L X.w0 w) (hM:∀ k,k ∈ opTch ops o i env→∀ x,look k mem=some x→Hc w (r k).1 x.1 x.2∧X.Own (r k).1)
  (hnk:∀ x,look key mem≠some x) (K:Act→World→Prop) (Q:Exit→Act→World→Prop)
  (hK:∀ m w',After (rB (updR r key m)) key (res m).wr w w'→K (a.put o.dst (res m).v) w'):Step P ops o a w K Q:=by
 have hev:=eval_rho hE
 unfold Step
 -- the guard
 obtain ⟨b,e,hwn,hbe⟩:∃ b e,wantOf ops o i.g env=some (b,e)∧(∀ m p,p ∈ e→p ∈ es m):=by
  have h1:=fun m=>h m
  unfold opEval at h1
  cases hw:wantOf ops o i.g env with
  | none =>
   have:=h1 (0,0)
   rw [hw] at this
   revert this;split <;> simp
  | some x =>
   obtain ⟨b,e⟩:=x
   refine ⟨b,e,rfl,fun m p hp=>?_⟩
   have h2:=h1 m
   rw [hw] at h2
   split at h2
   ·cases h2
   ·cases b with
    | false=>simp only [Option.some.injEq,Prod.mk.injEq] at h2;rw [← h2.2.1];exact hp
    | true =>
     simp only at h2
     unfold opEvalW at h2
     repeat' (split at h2)
     all_goals first | cases h2 | (simp only [Option.some.injEq,Prod.mk.injEq] at h2;rw [← h2.2.1];simp [hp])
 have hwant:=wantOf_sound hE (hwt.trans hwn) (fun p hp=>he (0,0) p (hbe (0,0) p hp))
 rw [hwant]
 have h1:∀ m,(match (some (b,e):Option (Bool × Eqs)) with
  | none=>none
  | some (false,e)=>some (⟨undef,0,[],opTch ops o i env⟩,e,[])
  | some (true,e)=>opEvalW (updR r key m) key o i.k env mem e)=some (res m,es m,ss m):=fun m=>by
  have h2:=h m
  unfold opEval at h2
  rw [hwn] at h2
  split at h2
  ·cases h2
  ·exact h2
 cases b with
 | false =>
  simp only [Bool.false_eq_true,if_false]
  have h2:=h1 (0,0)
  simp only [Option.some.injEq,Prod.mk.injEq] at h2
  have:=hK (0,0) w
  rw [← h2.1] at this
  exact this (After.none (Chg.refl _ _))
 | true =>
  simp only [if_true]
  simp only at h1
  unfold Oper.wp
  rw [hev,hex]
  unfold opTch at hM
  unfold opEvalW at h1
  cases hik:i.k with
  | pick d =>
   simp only [hik] at h1
   have h2:=h1 (0,0)
   split at h2
   ·rename_i c x y ho
    split at h2
    ·rename_i hd
     simp only [Option.some.injEq,Prod.mk.injEq] at h2
     obtain ⟨h3,h4,h5⟩:=h2
     have hc:=he (0,0) (rho env c,d.val) (by rw [← h4];exact List.mem_cons_self)
     simp only at hc
     have hr:(execOp (rho env) o).run P w = .ok (.value (bif d.go then rho env x else rho env y)) w:=by
      unfold execOp
      rw [ho]
      simp only [hc]
      cases d with
      | t=>rfl
      | f=>rfl
      | u=>simp [Dec.real] at hd
      | p b d hbd=>subst hbd;cases b <;> rfl
     rw [hr]
     have:=hK (0,0) w
     rw [← h3] at this
     exact this (After.none (Chg.refl _ _))
    ·cases h2
   ·cases h2
  | call p =>
   simp only [hik] at h1 hM
   cases hv:vmS P 0 (execOp (rho env) o) #[] with
   | none=>have h2:=h1 (0,0);rw [hv] at h2;cases h2
   | some x =>
    obtain ⟨nx,cs',wr,nw,l⟩:=x
    have h2:=h1
    simp only [hv] at h2
    have hcall:nx = .enter p.f (p.args (match p.key with | none=>0 | some k=>(r k).1))∧wr=false∧nw=none∧l = []∧(∀ k,p.key=some k→∃ t cs,look k mem=some (t,cs)∧t=(p.use (r k).1).1∧cs=(p.use (r k).1).2)∧(p.key=none→p.upd=none):=by
     have h3:=h2 (0,0)
     split at h3
     ·rename_i f args c he1
      simp only [Option.some.injEq,Prod.mk.injEq] at he1
      obtain ⟨rfl,rfl,rfl,rfl,rfl⟩:=he1
      split at h3
      ·rename_i hpk
       split at h3
       ·rename_i hup
        simp only [Option.some.injEq,Prod.mk.injEq] at h3
        have e1:=he (0,0) (nv f,nv p.f) (by rw [← h3.2.1];simp)
        have e2:=he (0,0) (.tuple args,.tuple (p.args 0)) (by rw [← h3.2.1];simp)
        simp only [nv,Value.map.injEq,Option.some.injEq] at e1
        simp only [Value.tuple.injEq] at e2
        subst e1 e2
        exact ⟨rfl,rfl,rfl,rfl,fun k hk=>(by rw [hpk] at hk;cases hk),fun _=>hup⟩
       ·cases h3
      ·rename_i k hpk
       split at h3
       ·cases h3
       ·rename_i t cs hlk
        simp only [Option.some.injEq,Prod.mk.injEq] at h3
        have hrk:updR r key (0,0) k=r k:=updR_ne r (fun e=>hnk _ (e ▸ hlk))
        have e1:=he (0,0) (nv f,nv p.f) (by rw [← h3.2.1];simp)
        have e2:=he (0,0) (.tuple args,.tuple (p.args (r k).1)) (by rw [← h3.2.1,hrk];simp)
        have e3:=he (0,0) (nv t,nv (p.use (r k).1).1) (by rw [← h3.2.1,hrk];simp)
        have e4:=he (0,0) (.tuple cs,.tuple (p.use (r k).1).2) (by rw [← h3.2.1,hrk];simp)
        simp only [nv,Value.map.injEq,Option.some.injEq] at e1 e3
        simp only [Value.tuple.injEq] at e2 e4
        subst e1 e2
        exact ⟨rfl,rfl,rfl,rfl,fun k' hk'=>by rw [hpk] at hk';cases hk';exact ⟨t,cs,hlk,e3,e4⟩,fun h=>by rw [hpk] at h;cases h⟩
     ·cases h3
    obtain ⟨rfl,rfl,rfl,rfl,hkey,hnone⟩:=hcall
    obtain ⟨w1,hrun,hc1,-,-,-,-⟩:=vmS_sound P 0 0 0 _ _ _ _ _ _ _ hv w (fun h=>absurd rfl h) (fun y hy=>by cases hy) (fun h=>by cases h)
    obtain ⟨w2,hrun2,hc2⟩:∃ w2,(execOp (rho env) o).run P w = .ok (.enter p.f (p.args (match p.key with | none=>0 | some k=>(r k).1))) w2∧Chg [] w w2:=⟨w1,hrun,by simpa using hc1⟩
    rw [hrun2]
    have hB2:Chg X.L X.w0 w2:=hB.over hc2 (by simp)
    cases hpk:p.key with
    | none =>
     simp only [hpk] at h2
     have hup:=hnone hpk
     simp only [hup] at h2
     have hok:=p.ok 0 w2 hB2 (fun h=>by rw [hpk] at h;cases h)
     refine Calls.mono hok ?_
     rintro e' w3 ⟨n,m,rfl,hnw,-,hch⟩
     have h3:=h2 (n,m)
     simp only [Option.some.injEq,Prod.mk.injEq] at h3
     have:=hK (n,m) w3
     rw [← h3.1] at this
     simp only [updR_self] at this
     refine this ⟨?_,?_,?_⟩
     ·have h5:Chg [] w w3:=hc2.trans (by simpa [hup] using hch)
      exact h5.mono (by simp)
     ·intro q hq
      cases hn:p.new m with
      | none=>simp [hn,newWr] at hq
      | some x =>
       simp only [hn,newWr,List.mem_singleton] at hq
       subst hq
       simp only [rB_self]
       exact (hnw x.1 x.2 hn).2
     ·intro q hq _
      cases hn:p.new m with
      | none=>simp [hn,newWr] at hq
      | some x =>
       rw [rB_self]
       have:=(hnw x.1 x.2 hn).1
       have:=hc2.size
       omega
    | some k =>
     obtain ⟨t,cs,hlk,ht,hcs⟩:=hkey k hpk
     simp only [hpk,hlk] at h2
     have hne:k≠key:=fun e=>hnk _ (e ▸ hlk)
     obtain ⟨hm1,hm2⟩:=hM k (by rw [hpk];simp) _ hlk
     simp only at hm1
     have hm3:=hm1.chg hc2 (by simp)
     have hok:=p.ok (r k).1 w2 hB2 (fun _=>⟨hm2,by rw [← ht,← hcs];exact hm3⟩)
     refine Calls.mono hok ?_
     rintro e' w3 ⟨n,m,rfl,hnw,hupd,hch⟩
     have h3:=h2 (n,m)
     simp only [Option.some.injEq,Prod.mk.injEq,updR_self,updR_ne r hne] at h3
     have:=hK (n,m) w3
     rw [← h3.1] at this
     refine this ⟨?_,?_,?_⟩
     ·have h5:Chg (if p.upd.isSome=true then [(r k).1] else []) w w3:=(hc2.mono (by simp)).trans hch
      refine h5.mono (fun x hx=>?_)
      split at hx
      ·rename_i hs1
       obtain ⟨g,hg⟩:=Option.isSome_iff_exists.1 hs1
       simp only [List.mem_singleton] at hx
       subst hx
       simp [hg,updWr,rB_ne r hne]
      ·cases hx
     ·intro q hq
      rcases List.mem_append.1 hq with hq | hq
      ·cases hg:p.upd with
       | none=>simp [hg,updWr] at hq
       | some g =>
        simp only [hg,Option.map_some,updWr,List.mem_singleton] at hq
        subst hq
        simp only [rB_ne r hne]
        have:=hupd g hg
        rw [← ht] at this
        exact this
      ·cases hn:p.new m with
       | none=>simp [hn,newWr] at hq
       | some x =>
        simp only [hn,newWr,List.mem_singleton] at hq
        subst hq
        simp only [rB_self]
        exact (hnw x.1 x.2 hn).2
     ·intro q hq hqk
      rw [rB_self]
      rcases List.mem_append.1 hq with hq | hq
      ·cases hg:p.upd with
       | none=>simp [hg,updWr] at hq
       | some g =>
        simp only [hg,Option.map_some,updWr,List.mem_singleton] at hq
        subst hq
        exact absurd hqk hne
      ·cases hn:p.new m with
       | none=>simp [hn,newWr] at hq
       | some x =>
        have:=(hnw x.1 x.2 hn).1
        have:=hc2.size
        omega
  | look p =>
   simp only [hik] at h1 hM
   cases hpk:p.key with
   | none =>
    simp only [hpk] at h1
    cases hup:p.upd with
    | some g =>
     simp only [hup] at h1
     exact absurd (h1 (0,0)) (by simp)
    | none =>
     simp only [hup,Option.some.injEq,Prod.mk.injEq] at h1
     obtain ⟨n,m,nx,w',hrun,hnv,hnw,-,hch⟩:=p.ok 0 w hB (fun h=>by rw [hpk] at h;cases h)
     have h2:=h1 (n,m)
     have e1:=hs (n,m) (execOp (rho env) o,p.x 0) (by rw [← h2.2.2];simp)
     simp only at e1
     rw [e1,hrun]
     refine upon_nextV hnv ?_
     have:=hK (n,m) w'
     rw [← h2.1] at this
     simp only [updR_self] at this
     refine this ⟨?_,?_,?_⟩
     ·have h5:Chg [] w w':=by simpa [hup] using hch
      exact h5.mono (by simp)
     ·intro q hq
      cases hn:p.new m with
      | none=>simp [hn,newWr] at hq
      | some x =>
       simp only [hn,newWr,List.mem_singleton] at hq
       subst hq
       simp only [rB_self]
       exact (hnw x.1 x.2 hn).2
     ·intro q hq _
      cases hn:p.new m with
      | none=>simp [hn,newWr] at hq
      | some x =>
       rw [rB_self]
       exact (hnw x.1 x.2 hn).1
   | some k =>
    simp only [hpk] at h1
    cases hlk:look k mem with
    | none =>
     simp only [hlk] at h1
     exact absurd (h1 (0,0)) (by simp)
    | some tc =>
     obtain ⟨t,cs⟩:=tc
     simp only [hlk] at h1
     have hne:k≠key:=fun e=>hnk _ (e ▸ hlk)
     obtain ⟨hm1,hm2⟩:=hM k (by rw [hpk];simp) _ hlk
     simp only at hm1
     simp only [Option.some.injEq,Prod.mk.injEq,updR_ne r hne] at h1
     have h0:=h1 (0,0)
     have e3:=he (0,0) (nv t,nv (p.use (r k).1).1) (by rw [← h0.2.1];simp)
     have e4:=he (0,0) (.tuple cs,.tuple (p.use (r k).1).2) (by rw [← h0.2.1];simp)
     simp only [nv,Value.map.injEq,Option.some.injEq] at e3
     simp only [Value.tuple.injEq] at e4
     obtain ⟨n,m,nx,w',hrun,hnv,hnw,hupd,hch⟩:=p.ok (r k).1 w hB (fun _=>⟨hm2,by rw [← e3,← e4];exact hm1⟩)
     have h2:=h1 (n,m)
     have e1:=hs (n,m) (execOp (rho env) o,p.x (r k).1) (by rw [← h2.2.2];simp)
     simp only at e1
     rw [e1,hrun]
     refine upon_nextV hnv ?_
     have:=hK (n,m) w'
     rw [← h2.1] at this
     simp only [updR_self] at this
     refine this ⟨?_,?_,?_⟩
     ·refine hch.mono (fun x hx=>?_)
      split at hx
      ·rename_i hs1
       obtain ⟨g,hg⟩:=Option.isSome_iff_exists.1 hs1
       simp only [List.mem_singleton] at hx
       subst hx
       simp [hg,updWr,rB_ne r hne]
      ·cases hx
     ·intro q hq
      rcases List.mem_append.1 hq with hq | hq
      ·cases hg:p.upd with
       | none=>simp [hg,updWr] at hq
       | some g =>
        simp only [hg,Option.map_some,updWr,List.mem_singleton] at hq
        subst hq
        simp only [rB_ne r hne]
        have:=hupd g hg
        rw [← e3] at this
        exact this
      ·cases hn:p.new m with
       | none=>simp [hn,newWr] at hq
       | some x =>
        simp only [hn,newWr,List.mem_singleton] at hq
        subst hq
        simp only [rB_self]
        exact (hnw x.1 x.2 hn).2
     ·intro q hq hqk
      rw [rB_self]
      rcases List.mem_append.1 hq with hq | hq
      ·cases hg:p.upd with
       | none=>simp [hg,updWr] at hq
       | some g =>
        simp only [hg,Option.map_some,updWr,List.mem_singleton] at hq
        subst hq
        exact absurd hqk hne
      ·cases hn:p.new m with
       | none=>simp [hn,newWr] at hq
       | some x=>exact (hnw x.1 x.2 hn).1
  | two p =>
   simp only [hik] at h1 hM
   cases hl2:look p.k2 mem with
   | none =>
    simp only [hl2] at h1
    exact absurd (h1 (0,0)) (by simp)
   | some tc2 =>
    obtain ⟨t2,c2⟩:=tc2
    simp only [hl2] at h1
    have hne2:p.k2≠key:=fun e=>hnk _ (e ▸ hl2)
    obtain ⟨hm2,-⟩:=hM p.k2 (by simp) _ hl2
    simp only at hm2
    cases hpk:p.k1 with
    | none =>
     simp only [hpk] at h1
     cases hup:p.upd with
     | some g =>
      simp only [hup] at h1
      exact absurd (h1 (0,0)) (by simp)
     | none =>
      simp only [hup,Option.some.injEq,Prod.mk.injEq,updR_ne r hne2] at h1
      have h0:=h1 (0,0)
      have e3:=he (0,0) (nv t2,nv p.use2.1) (by rw [← h0.2.1];simp)
      have e4:=he (0,0) (.tuple c2,.tuple p.use2.2) (by rw [← h0.2.1];simp)
      simp only [nv,Value.map.injEq,Option.some.injEq] at e3
      simp only [Value.tuple.injEq] at e4
      obtain ⟨n,m,nx,w',hrun,hnv,hnw,-,hch⟩:=p.ok 0 (r p.k2).1 w hB (fun h=>by rw [hpk] at h;cases h) (by rw [← e3,← e4];exact hm2)
      have h2:=h1 (n,m)
      have e1:=hs (n,m) (execOp (rho env) o,p.x 0 (r p.k2).1) (by rw [← h2.2.2];simp)
      simp only at e1
      rw [e1,hrun]
      refine upon_nextV hnv ?_
      have:=hK (n,m) w'
      rw [← h2.1] at this
      simp only [updR_self] at this
      refine this ⟨?_,?_,?_⟩
      ·have h5:Chg [] w w':=by simpa [hup] using hch
       exact h5.mono (by simp)
      ·intro q hq
       cases hn:p.new m with
       | none=>simp [hn,newWr] at hq
       | some x =>
        simp only [hn,newWr,List.mem_singleton] at hq
        subst hq
        simp only [rB_self]
        exact (hnw x.1 x.2 hn).2
      ·intro q hq _
       cases hn:p.new m with
       | none=>simp [hn,newWr] at hq
       | some x =>
        rw [rB_self]
        exact (hnw x.1 x.2 hn).1
    | some k =>
     simp only [hpk] at h1
     cases hlk:look k mem with
     | none =>
      simp only [hlk] at h1
      exact absurd (h1 (0,0)) (by simp)
     | some tc =>
      obtain ⟨t,cs⟩:=tc
      simp only [hlk] at h1
      have hne:k≠key:=fun e=>hnk _ (e ▸ hlk)
      obtain ⟨hm1,hm3⟩:=hM k (by rw [hpk];simp) _ hlk
      simp only at hm1
      simp only [Option.some.injEq,Prod.mk.injEq,updR_ne r hne,updR_ne r hne2] at h1
      have h0:=h1 (0,0)
      have e3:=he (0,0) (nv t,nv p.use1.1) (by rw [← h0.2.1];simp)
      have e4:=he (0,0) (.tuple cs,.tuple p.use1.2) (by rw [← h0.2.1];simp)
      have e5:=he (0,0) (nv t2,nv p.use2.1) (by rw [← h0.2.1];simp)
      have e6:=he (0,0) (.tuple c2,.tuple p.use2.2) (by rw [← h0.2.1];simp)
      simp only [nv,Value.map.injEq,Option.some.injEq] at e3 e5
      simp only [Value.tuple.injEq] at e4 e6
      obtain ⟨n,m,nx,w',hrun,hnv,hnw,hupd,hch⟩:=p.ok (r k).1 (r p.k2).1 w hB (fun _=>⟨hm3,by rw [← e3,← e4];exact hm1⟩) (by rw [← e5,← e6];exact hm2)
      have h2:=h1 (n,m)
      have e1:=hs (n,m) (execOp (rho env) o,p.x (r k).1 (r p.k2).1) (by rw [← h2.2.2];simp)
      simp only at e1
      rw [e1,hrun]
      refine upon_nextV hnv ?_
      have:=hK (n,m) w'
      rw [← h2.1] at this
      simp only [updR_self] at this
      refine this ⟨?_,?_,?_⟩
      ·refine hch.mono (fun x hx=>?_)
       split at hx
       ·rename_i hs1
        obtain ⟨g,hg⟩:=Option.isSome_iff_exists.1 hs1
        simp only [List.mem_singleton] at hx
        subst hx
        simp [hg,updWr,rB_ne r hne]
       ·cases hx
      ·intro q hq
       rcases List.mem_append.1 hq with hq | hq
       ·cases hg:p.upd with
        | none=>simp [hg,updWr] at hq
        | some g =>
         simp only [hg,updWr,List.mem_singleton] at hq
         subst hq
         simp only [rB_ne r hne]
         have:=hupd g hg
         rw [← e3] at this
         exact this
       ·cases hn:p.new m with
        | none=>simp [hn,newWr] at hq
        | some x =>
         simp only [hn,newWr,List.mem_singleton] at hq
         subst hq
         simp only [rB_self]
         exact (hnw x.1 x.2 hn).2
      ·intro q hq hqk
       rw [rB_self]
       rcases List.mem_append.1 hq with hq | hq
       ·cases hg:p.upd with
        | none=>simp [hg,updWr] at hq
        | some g =>
         simp only [hg,updWr,List.mem_singleton] at hq
         subst hq
         exact absurd hqk hne
       ·cases hn:p.new m with
        | none=>simp [hn,newWr] at hq
        | some x=>exact (hnw x.1 x.2 hn).1
  | call2 p =>
   simp only [hik] at h1 hM
   cases hv:vmS P 0 (execOp (rho env) o) #[] with
   | none=>have h2:=h1 (0,0);rw [hv] at h2;cases h2
   | some x =>
    obtain ⟨nx,cs',wr,nw,l⟩:=x
    have h2:=h1
    simp only [hv] at h2
    have hcall:∃ t1 c1 t2 c2,look p.k1 mem=some (t1,c1)∧look p.k2 mem=some (t2,c2)∧nx = .enter p.f (p.args (r p.k1).1 (r p.k2).1)∧wr=false∧nw=none∧l = []∧t1=p.use1.1∧c1=p.use1.2∧t2=p.use2.1∧c2=p.use2.2∧∀ m,(res m).v=p.res∧(res m).wr = []:=by
     have h3:=h2 (0,0)
     split at h3
     ·rename_i f args c he1
      simp only [Option.some.injEq,Prod.mk.injEq] at he1
      obtain ⟨rfl,rfl,rfl,rfl,rfl⟩:=he1
      split at h3
      ·cases h3
      ·rename_i t1 c1 hl1
       split at h3
       ·cases h3
       ·rename_i t2 c2 hl2
        have n1:p.k1≠key:=fun e=>hnk _ (e ▸ hl1)
        have n2:p.k2≠key:=fun e=>hnk _ (e ▸ hl2)
        simp only [hl1,hl2,Option.some.injEq,Prod.mk.injEq,updR_ne r n1,updR_ne r n2] at h2
        have h4:=h2 (0,0)
        have e1:=he (0,0) (nv f,nv p.f) (by rw [← h4.2.1];simp)
        have e2:=he (0,0) (.tuple args,.tuple (p.args (r p.k1).1 (r p.k2).1)) (by rw [← h4.2.1];simp)
        have e3:=he (0,0) (nv t1,nv p.use1.1) (by rw [← h4.2.1];simp)
        have e4:=he (0,0) (.tuple c1,.tuple p.use1.2) (by rw [← h4.2.1];simp)
        have e5:=he (0,0) (nv t2,nv p.use2.1) (by rw [← h4.2.1];simp)
        have e6:=he (0,0) (.tuple c2,.tuple p.use2.2) (by rw [← h4.2.1];simp)
        simp only [nv,Value.map.injEq,Option.some.injEq] at e1 e3 e5
        simp only [Value.tuple.injEq] at e2 e4 e6
        subst e1 e2
        exact ⟨t1,c1,t2,c2,hl1,hl2,rfl,rfl,rfl,rfl,e3,e4,e5,e6,fun m=>by rw [← (h2 m).1];exact ⟨rfl,rfl⟩⟩
     ·cases h3
    obtain ⟨t1,c1,t2,c2,hl1,hl2,rfl,rfl,rfl,rfl,e3,e4,e5,e6,hres⟩:=hcall
    obtain ⟨w1,hrun,hc1,-,-,-,-⟩:=vmS_sound P 0 0 0 _ _ _ _ _ _ _ hv w (fun h=>absurd rfl h) (fun y hy=>by cases hy) (fun h=>by cases h)
    obtain ⟨w2,hrun2,hc2⟩:∃ w2,(execOp (rho env) o).run P w = .ok (.enter p.f (p.args (r p.k1).1 (r p.k2).1)) w2∧Chg [] w w2:=⟨w1,hrun,by simpa using hc1⟩
    rw [hrun2]
    have hB2:Chg X.L X.w0 w2:=hB.over hc2 (by simp)
    have m1:=((hM p.k1 (by simp) _ hl1).1).chg hc2 (by simp)
    have m2:=((hM p.k2 (by simp) _ hl2).1).chg hc2 (by simp)
    simp only at m1 m2
    rw [e3,e4] at m1
    rw [e5,e6] at m2
    refine Calls.mono (p.ok _ _ w2 hB2 m1 m2) ?_
    rintro e' w3 ⟨rfl,hch⟩
    have:=hK (0,0) w3
    rw [(hres (0,0)).1] at this
    refine this ⟨?_,?_,?_⟩
    ·rw [(hres (0,0)).2];exact hc2.trans hch
    ·intro q hq;rw [(hres (0,0)).2] at hq;cases hq
    ·intro q hq;rw [(hres (0,0)).2] at hq;cases hq
  | auto =>
   simp only [hik] at h1 hM
   cases hmv:isMove o.op with
   | some x =>
    simp only [hmv,Option.some.injEq,Prod.mk.injEq] at h1
    rw [isMove_run hmv]
    have:=hK (0,0) w
    rw [← (h1 (0,0)).1] at this
    exact this (After.none (Chg.refl _ _))
   | none =>
    simp only [hmv] at h1 hM
    have h2:=h1 (w.heap.size,0)
    split at h2
    ·rename_i htag
     split at h2
     ·rename_i nx c nw hv
      split at h2
      ·rename_i v hnv
       simp only [Option.some.injEq,Prod.mk.injEq] at h2
       rw [updR_self] at hv
       obtain ⟨w1,hrun,hc1,-,hn1,-,-⟩:=vmS_sound P w.heap.size 0 0 _ _ _ _ _ _ _ hv w (fun h=>absurd rfl h) (fun y hy=>by cases hy) (fun _=>rfl)
       rw [hrun]
       refine upon_nextV hnv ?_
       have:=hK (w.heap.size,0) w1
       rw [← h2.1] at this
       refine this ⟨?_,?_,?_⟩
       ·exact (show Chg [] w w1 by simpa using hc1).mono (by simp)
       ·intro q hq
        cases hn:nw with
        | none=>simp [hn,newWr] at hq
        | some x =>
         simp only [hn,newWr,List.mem_singleton] at hq
         subst hq
         simp only [rB_self]
         exact hn1 x.1 x.2 hn
       ·intro q hq _;rw [rB_self];exact Nat.le_refl _
      ·cases h2
     ·cases h2
    ·rename_i k htag
     rw [htag] at hM
     simp only [List.mem_singleton] at hM
     split at h2
     ·cases h2
     ·rename_i t cs hlk
      split at h2
      ·rename_i nx cs' wr nw l hv
       split at h2
       ·rename_i v hnv
        have hne:k≠key:=fun e=>hnk _ (e ▸ hlk)
        simp only [Option.some.injEq,Prod.mk.injEq,updR_ne r hne] at h2
        rw [updR_self] at hv
        obtain ⟨hm1,hm2⟩:=hM k rfl _ hlk
        simp only at hm1
        have hl:∀ y,y ∈ l→y=(r k).1:=fun y hy=>by
         have:=he (w.heap.size,0) (nv y,nv (r k).1) (by rw [← h2.2.1];exact List.mem_append_left _ (List.mem_map.2 ⟨y,hy,rfl⟩))
         simpa [nv] using this
        obtain ⟨w1,hrun,hc1,hb1,hn1,hwl,hnw⟩:=vmS_sound P w.heap.size (r k).1 t _ _ _ _ _ _ _ hv w (fun _=>hm1) hl (fun _=>rfl)
        rw [hrun]
        refine upon_nextV hnv ?_
        have:=hK (w.heap.size,0) w1
        rw [← h2.1] at this
        refine this ⟨?_,?_,?_⟩
        ·refine hc1.mono (fun x hx=>?_)
         cases hwr:wr with
         | false=>rw [hwr] at hx;simp at hx
         | true=>rw [hwr] at hx;simp only [if_true,List.mem_singleton] at hx;subst hx;simp [updWr,rB_ne r hne]
        ·intro q hq
         rcases List.mem_append.1 hq with hq | hq
         ·cases hwr:wr with
          | false=>rw [hwr] at hq;simp [updWr] at hq
          | true =>
           rw [hwr] at hq
           simp only [cond_true,updWr,List.mem_singleton] at hq
           subst hq
           simp only [rB_ne r hne]
           exact hb1 (hwl hwr)
         ·cases hn:nw with
          | none=>simp [hn,newWr] at hq
          | some x =>
           simp only [hn,newWr,List.mem_singleton] at hq
           subst hq
           simp only [rB_self]
           exact hn1 x.1 x.2 hn
        ·intro q hq hqk;rw [rB_self];exact Nat.le_refl _
       ·cases h2
      ·cases h2
end Go.Proofs.YtlhddcingeneaaaGreatDoor
namespace Go.Proofs.YtlhddcingeneaaaGreatDoor
open Go Go.RowKit
structure RS where
 env:Env
 mem:Mem
 rs:List ORes
 es:Eqs
 ss:Seqs
def pushE (dst:Option Tmp) (res:ORes) (env:Env):Env:=match dst with
 | some d=>(d,(res.v,res.tag)) :: env
 | none=>env
def vmUp {P:Program} {X:Cx} (r:Rn) (nt:Nat) (ops:Array Oper) (key:Nat) (ins:List (OpIn P X)) (env:Env) (mem:Mem):Nat→Option RS
 | 0=>some ⟨env,mem,[],[],[]⟩
 | j+1=>match vmUp r nt ops key ins env mem j with
  | none=>none
  | some s=>match ops[j]?,ins[j]? with
   | some o,some i=>match opEval r nt ops (key+j) o i s.env s.mem with
    | none=>none
    | some (res,e,q)=>some ⟨pushE o.dst res s.env,res.wr++s.mem,res :: s.rs,e++s.es,q++s.ss⟩
   | _,_=>none
def mskOf (l:List Nat) (o:Oper):Nat:=o.after.toList.foldl (fun m e=>bif Region.binds .any e then m ||| (1 <<< e.on) ||| l.getD e.on 0 else m) 0
def msk (ops:Array Oper):Nat→List Nat
 | 0=>[]
 | n+1=>let l:=msk ops n
  l ++ [match ops[n]? with | some o=>mskOf l o | none=>0]
def backB (j:Nat) (o:Oper):Bool:=o.after.toList.all fun e=>!Region.binds .any e || Nat.blt e.on j
def meets (l m:List Nat):Bool:=l.any fun x=>m.any fun y=>Nat.beq x y
def dstIn (o:Oper) (l:List Nat):Bool:=match o.dst with
 | some d=>l.any fun y=>Nat.beq d y
 | none=>false
def indep (ops:Array Oper) (om oj:Oper) (rm rj:ORes):Bool :=
 !dstIn om (oj.looksAt ops) && !dstIn om oj.dst.toList && !meets (rm.wr.map (·.1)) rj.tch && !meets (rm.wr.map (·.1)) (rj.wr.map (·.1))
def okAt (ops:Array Oper) (key:Nat) (rs:List ORes) (ms:List Nat) (j:Nat):Bool :=
 match ops[j]?,rs[j]? with
 | some oj,some rj=>backB j oj && (rj.tch.all fun k=>Nat.blt k key || (ms.getD j 0).testBit (k - key)) &&
  (List.range j).all fun m=>(ms.getD j 0).testBit m || match ops[m]?,rs[m]? with
   | some om,some rm=>indep ops om oj rm rj && indep ops oj om rj rm
   | _,_=>false
 | _,_=>false
def regOk (ops:Array Oper) (key:Nat) (rs:List ORes):Bool :=
 Region.noSelect ops && let ms:=msk ops ops.size
  (List.range ops.size).all (okAt ops key rs ms)
def assignD {P:Program} {X:Cx} (rid:Nat) (lk:List (Nat × Nat)) (j:Nat) (o:Oper) (g:Option Dec) (ds:List Dec) (ps:List (Item P X)):Option (OpIn P X × List Dec × List (Item P X)) :=
 match o.op with
 | .pick _ _ _=>match ds with
  | d :: ds=>some (⟨g,.pick d⟩,ds,ps)
  | []=>none
 | .call c=>match c.callee with
  | .builtin _=>bif lk.any (fun p=>Nat.beq p.1 rid && Nat.beq p.2 j) then (match ps with
    | .look p :: ps=>some (⟨g,.look p⟩,ds,ps)
    | .two p :: ps=>some (⟨g,.two p⟩,ds,ps)
    | _=>none) else some (⟨g,.auto⟩,ds,ps)
  | _=>match ps with
   | .call p :: ps=>some (⟨g,.call p⟩,ds,ps)
   | .call2 p :: ps=>some (⟨g,.call2 p⟩,ds,ps)
   | .look p :: ps=>some (⟨g,.look p⟩,ds,ps)
   | .two p :: ps=>some (⟨g,.two p⟩,ds,ps)
   | _=>none
 | _=>bif lk.any (fun p=>Nat.beq p.1 rid && Nat.beq p.2 j) then (match ps with
   | .look p :: ps=>some (⟨g,.look p⟩,ds,ps)
   | .two p :: ps=>some (⟨g,.two p⟩,ds,ps)
   | _=>none) else some (⟨g,.auto⟩,ds,ps)
def assign {P:Program} {X:Cx} (rid:Nat) (lk:List (Nat × Nat)):Nat→List Oper→List Dec→List (Item P X)→Option (List (OpIn P X) × List Dec × List (Item P X))
 | _,[],ds,ps=>some ([],ds,ps)
 | j,o :: os,ds,ps=>match o.guard with
  | none=>match assignD rid lk j o none ds ps with
   | none=>none
   | some (i,ds,ps)=>match assign rid lk (j+1) os ds ps with
    | none=>none
    | some (is,ds,ps)=>some (i :: is,ds,ps)
  | some (_,want)=>match ds with
   | []=>none
   | d :: ds=>match d.real && (d.go == want) with
    | false=>match assign rid lk (j+1) os ds ps with
     | none=>none
     | some (is,ds,ps)=>some (⟨some d,.auto⟩ :: is,ds,ps)
    | true=>match assignD rid lk j o (some d) ds ps with
     | none=>none
     | some (i,ds,ps)=>match assign rid lk (j+1) os ds ps with
      | none=>none
      | some (is,ds,ps)=>some (i :: is,ds,ps)
structure VSt (P:Program) (X:Cx) where
 env:Env
 mem:Mem
 ctr:Nat
 ds:List Dec
 ps:List (Item P X)
inductive VEx | n | x (id:Nat) | r
def vmC {P:Program} {X:Cx} (lk:List (Nat × Nat)) (nt:Nat) (r:Rn):Nat→Code→VSt P X→Option (VEx × VSt P X × Eqs × Seqs)
 | 0,_,_=>none
 | n+1,c,s=>match c with
  | .skip=>some (.n,s,[],[])
  | .region id ops draw=>match assign id lk 0 ops.toList s.ds s.ps with
   | none=>none
   | some (ins,ds,ps)=>match vmUp r nt ops s.ctr ins s.env s.mem ops.size with
    | none=>none
    | some q=>match Region.noSelect ops && (!draw || regOk ops s.ctr q.rs.reverse) with
     | false=>none
     | true=>some (.n,⟨q.env,q.mem,s.ctr+ops.size,ds,ps⟩,q.es,q.ss)
  | .seq a b=>match vmC lk nt r n a s with
   | none=>none
   | some (.n,s1,e1,q1)=>match vmC lk nt r n b s1 with
    | none=>none
    | some (x,s2,e2,q2)=>some (x,s2,e2++e1,q2++q1)
   | some (x,s1,e1,q1)=>some (x,s1,e1,q1)
  | .cond c x y=>match s.ds with
   | []=>none
   | d :: ds=>match d.real with
    | false=>none
    | true=>match vmC lk nt r n (bif d.go then x else y) ⟨s.env,s.mem,s.ctr,ds,s.ps⟩ with
     | none=>none
     | some (x,s1,e1,q1)=>some (x,s1,(rho s.env c,d.val) :: e1,q1)
  | .block id c=>match vmC lk nt r n c s with
   | none=>none
   | some (.x i,s1,e1,q1)=>some (bif Nat.beq i id then .n else .x i,s1,e1,q1)
   | some (x,s1,e1,q1)=>some (x,s1,e1,q1)
  | .loop c=>match vmC lk nt r n c s with
   | none=>none
   | some (.n,s1,e1,q1)=>match vmC lk nt r n (.loop c) s1 with
    | none=>none
    | some (x,s2,e2,q2)=>some (x,s2,e2++e1,q2++q1)
   | some (x,s1,e1,q1)=>some (x,s1,e1,q1)
  | .exit id=>some (.x id,s,[],[])
  | .ret=>some (.r,s,[],[])
  | _=>none
def vmRes (P:Program) (r:Nat→Nat) (env:Env) (mem:Mem):List ResultVar→Option (List Value × Eqs)
 | []=>some ([],[])
 | .tmp t :: l=>match vmRes P r env mem l with
  | none=>none
  | some (vs,e)=>some (envV env t :: vs,e)
 | .cell a t :: l=>match tagOf env (.tmp a) with
  | 0=>none
  | k+1=>match look k mem with
   | none=>none
   | some (_,cs)=>match vmS P 0 (do loadVar t (← asAddr (envV env a))) cs with
    | some (v,_,false,none,b)=>match vmRes P r env mem l with
     | none=>none
     | some (vs,e)=>some (v :: vs,b.map (fun x=>(nv x,nv (r k)))++e)
    | _=>none
def retV:List Value→Value
 | [v]=>v
 | vs=>.tuple vs.toArray
def env0:Nat→List Value→Env
 | _,[]=>[]
 | j,v :: l=>(j,(v,0)) :: env0 (j+1) l
def vmF {P:Program} {X:Cx} (lk:List (Nat × Nat)) (fn:Func) (c:Code) (args:List Value) (r:Rn) (ds:List Dec) (ps:List (Item P X)) (v:Value):Option (Eqs × Seqs) :=
 match vmC lk fn.ntmps r 100000 c ⟨env0 0 args,[],0,ds,ps⟩ with
 | some (x,s,e,q)=>match x with
  | .x _=>none
  | _=>match vmRes P (rB r) s.env s.mem fn.results.toList with
   | none=>none
   | some (vs,e2)=>some ((retV vs,v) :: e2++e,q)
 | none=>none
def vmL (x:Option (Eqs × Seqs)):List Value:=match x with
 | none=>[.bool true]
 | some (e,_)=>e.map (·.1)
def vmR (x:Option (Eqs × Seqs)):List Value:=match x with
 | none=>[.bool false]
 | some (e,_)=>e.map (·.2)
def vmSL (x:Option (Eqs × Seqs)):List (Sem Next):=match x with
 | none=>[]
 | some (_,e)=>e.map (·.1)
def vmSR (x:Option (Eqs × Seqs)):List (Sem Next):=match x with
 | none=>[]
 | some (_,e)=>e.map (·.2)
end Go.Proofs.YtlhddcingeneaaaGreatDoor
namespace Go.Proofs.YtlhddcingeneaaaGreatDoor
open Go Go.RowKit
theorem envV_congr {env env':Env} {t:Tmp} (h:look t env=look t env'):envV env t=envV env' t:=by unfold envV;rw [h]
theorem mem_looksAt {ops:Array Oper} {o:Oper} {t:Tmp} (h:Operand.tmp t ∈ o.op.operands):t ∈ o.looksAt ops:=by
 unfold Oper.looksAt
 exact List.mem_append_left _ (List.mem_filterMap.2 ⟨.tmp t,by simpa using h,rfl⟩)
theorem rho_congr {ops:Array Oper} {o:Oper} {env env':Env} (h:∀ t,t ∈ o.looksAt ops→look t env=look t env') (x:Operand) (hx:x ∈ o.op.operands):rho env x=rho env' x:=by
 cases x with
 | tmp t=>exact envV_congr (h t (mem_looksAt hx))
 | _=>rfl
theorem tagOf_congr {ops:Array Oper} {o:Oper} {env env':Env} (h:∀ t,t ∈ o.looksAt ops→look t env=look t env') (x:Operand) (hx:x ∈ o.op.operands):tagOf env x=tagOf env' x:=by
 cases x with
 | tmp t=>simp only [tagOf,h t (mem_looksAt hx)]
 | _=>rfl
theorem tag1_congr {env env':Env}:∀ (l:List Operand),(∀ x,x ∈ l→tagOf env x=tagOf env' x)→tag1 env l=tag1 env' l
 | [],_=>rfl
 | x :: l,h=>by
  unfold tag1
  rw [h x List.mem_cons_self,tag1_congr l (fun y hy=>h y (List.mem_cons_of_mem _ hy))]
theorem wantOf_congr {ops:Array Oper} {o:Oper} {env env':Env} (g:Option Dec) (h:∀ t,t ∈ o.looksAt ops→look t env=look t env'):wantOf ops o g env=wantOf ops o g env':=by
 unfold wantOf
 cases hg:o.guard with
 | none=>cases g <;> rfl
 | some x =>
  obtain ⟨j,want⟩:=x
  cases g with
  | none=>rfl
  | some d =>
   simp only
   cases ht:(ops[j]?).bind (·.dst) with
   | none=>rfl
   | some t =>
    simp only
    rw [envV_congr (h t (by unfold Oper.looksAt;simp [hg,ht]))]
theorem exec_congr {ops:Array Oper} {o:Oper} {env env':Env} (hsel:∀ cs b,o.op ≠ .select cs b) (h:∀ t,t ∈ o.looksAt ops→look t env=look t env'):execOp (rho env) o=execOp (rho env') o :=
 execOp_congr o hsel (rho_congr h)
theorem tagO_congr {env env':Env} {op:Op} (h:∀ x,x ∈ op.operands.toList→tagOf env x=tagOf env' x):tagO env op=tagO env' op:=by
 unfold tagO
 split
 ·rfl
 ·rfl
 ·exact tag1_congr _ h
theorem opTch_congr {P:Program} {X:Cx} {ops:Array Oper} {o:Oper} {i:OpIn P X} {env env':Env} (h:∀ t,t ∈ o.looksAt ops→look t env=look t env'):opTch ops o i env=opTch ops o i env':=by
 unfold opTch
 rw [tagO_congr (fun x hx=>tagOf_congr h x (by simpa using hx))]
theorem opEval_congr {P:Program} {X:Cx} {r r':Rn} {nt:Nat} {ops:Array Oper} {key:Nat} {o:Oper} {i:OpIn P X} {env env':Env} {mem mem':Mem}
  (hsel:∀ cs b,o.op ≠ .select cs b) (hE:∀ t,t ∈ o.looksAt ops→look t env=look t env') (hM:∀ k,k ∈ opTch ops o i env→look k mem=look k mem'∧((look k mem').isSome=true→r k=r' k)) (hk:r key=r' key) :
  opEval r nt ops key o i env mem=opEval r' nt ops key o i env' mem':=by
 have hex:=exec_congr (env:=env) (env':=env') hsel hE
 have htg:=tagO_congr (op:=o.op) (fun x hx=>tagOf_congr (env:=env) (env':=env') hE x (by simpa using hx))
 have htc:=opTch_congr (i:=i) hE
 have hwn:=wantOf_congr i.g hE
 have hW:∀ e,opEvalW r key o i.k env mem e=opEvalW r' key o i.k env' mem' e:=fun e=>by
  unfold opTch at hM
  unfold opEvalW
  cases hik:i.k with
  | pick d =>
   simp only
   split
   ·rename_i c x y ho
    have hc:=rho_congr hE c (by rw [ho];simp [Op.operands])
    have hx:=rho_congr hE x (by rw [ho];simp [Op.operands])
    have hy:=rho_congr hE y (by rw [ho];simp [Op.operands])
    have hx':=tagOf_congr hE x (by rw [ho];simp [Op.operands])
    have hy':=tagOf_congr hE y (by rw [ho];simp [Op.operands])
    rw [hc,hx,hy,hx',hy']
   ·rfl
  | call p =>
   simp only [hik] at hM ⊢
   rw [hex,hk]
   cases hp:p.key with
   | none=>rfl
   | some k =>
    obtain ⟨h1,h2⟩:=hM k (by rw [hp];simp)
    simp only [h1]
    cases hl:look k mem' with
    | none=>rfl
    | some x=>have h3:=h2 (by rw [hl];rfl);simp only [h3]
  | look p =>
   simp only [hik] at hM ⊢
   rw [hex,hk]
   cases hp:p.key with
   | none=>rfl
   | some k =>
    obtain ⟨h1,h2⟩:=hM k (by rw [hp];simp)
    simp only [h1]
    cases hl:look k mem' with
    | none=>rfl
    | some x=>have h3:=h2 (by rw [hl];rfl);simp only [h3]
  | two p =>
   simp only [hik] at hM ⊢
   rw [hex,hk]
   obtain ⟨h3,h4⟩:=hM p.k2 (by simp)
   simp only [h3]
   cases hl2:look p.k2 mem' with
   | none=>rfl
   | some x2 =>
    have h5:=h4 (by rw [hl2];rfl)
    cases hp:p.k1 with
    | none=>simp only [h5]
    | some k =>
     obtain ⟨h1,h2⟩:=hM k (by rw [hp];simp)
     simp only [h1]
     cases hl:look k mem' with
     | none=>rfl
     | some x=>have h6:=h2 (by rw [hl];rfl);simp only [h5,h6]
  | call2 p =>
   simp only [hik] at hM ⊢
   rw [hex]
   obtain ⟨h1,h2⟩:=hM p.k1 (by simp)
   obtain ⟨h3,h4⟩:=hM p.k2 (by simp)
   simp only [h1,h3]
   cases hl1:look p.k1 mem' with
   | none=>rfl
   | some x1 =>
    cases hl2:look p.k2 mem' with
    | none=>rfl
    | some x2=>simp only [h2 (by rw [hl1];rfl),h4 (by rw [hl2];rfl)]
  | auto =>
   simp only [hik] at hM ⊢
   cases hmv:isMove o.op with
   | some x =>
    simp only
    rw [rho_congr hE x (isMove_mem hmv),tagOf_congr hE x (isMove_mem hmv)]
   | none =>
    simp only [hmv] at hM ⊢
    rw [hex,hk,← htg]
    cases ht:tagO env o.op with
    | zero=>rfl
    | succ k =>
     rw [ht] at hM
     obtain ⟨h1,h2⟩:=hM k (by simp)
     simp only [h1]
     cases hl:look k mem' with
     | none=>rfl
     | some x=>have h3:=h2 (by rw [hl];rfl);simp only [h3]
 unfold opEval
 rw [hwn,htc]
 simp only [hW]
theorem opEval_tch {P:Program} {X:Cx} {r:Rn} {nt:Nat} {ops:Array Oper} {key:Nat} {o:Oper} {i:OpIn P X} {env:Env} {mem:Mem} {res:ORes} {e:Eqs} {q:Seqs}
  (h:opEval r nt ops key o i env mem=some (res,e,q)):res.tch=opTch ops o i env∧(∀ p,p ∈ res.wr→p.1=key∨(p.1 ∈ res.tch∧(look p.1 mem).isSome=true)):=by
 have hnew:∀ (n:Option (TypeId × Array Value)) (p:Nat × (TypeId × Array Value)),p ∈ newWr key n→p.1=key:=fun n p hp=>by
  cases n with
  | none=>cases hp
  | some x=>simp only [newWr,List.mem_singleton] at hp;rw [hp]
 have hupd:∀ k t (n:Option (Array Value)) (p:Nat × (TypeId × Array Value)),p ∈ updWr k t n→p.1=k:=fun k t n p hp=>by
  cases n with
  | none=>cases hp
  | some x=>simp only [updWr,List.mem_singleton] at hp;rw [hp]
 unfold opEval at h
 split at h
 ·cases h
 ·split at h
  ·cases h
  ·simp only [Option.some.injEq,Prod.mk.injEq] at h
   obtain ⟨rfl,-,-⟩:=h
   exact ⟨rfl,fun p hp=>by cases hp⟩
  ·rename_i e1 hw1
   unfold opEvalW at h
   unfold opTch
   cases hik:i.k with
   | pick d =>
    simp only [hik] at h ⊢
    repeat' (split at h)
    all_goals first | cases h | skip
    all_goals exact ⟨rfl,fun p hp=>by cases hp⟩
   | call p =>
    simp only [hik] at h ⊢
    split at h
    ·split at h
     ·rename_i hpk
      split at h
      ·simp only [Option.some.injEq,Prod.mk.injEq] at h
       obtain ⟨rfl,-,-⟩:=h
       exact ⟨by rw [hpk];rfl,fun p hp=>.inl (hnew _ p hp)⟩
      ·cases h
     ·rename_i k hpk
      split at h
      ·cases h
      ·rename_i t cs hl
       simp only [Option.some.injEq,Prod.mk.injEq] at h
       obtain ⟨rfl,-,-⟩:=h
       refine ⟨by rw [hpk];rfl,fun p hp=>?_⟩
       rcases List.mem_append.1 hp with hp | hp
       ·have:=hupd _ _ _ p hp
        rw [this]
        exact .inr ⟨by simp,by rw [hl];rfl⟩
       ·exact .inl (hnew _ p hp)
    ·cases h
   | look p =>
    simp only [hik] at h ⊢
    split at h
    ·rename_i hpk
     split at h
     ·simp only [Option.some.injEq,Prod.mk.injEq] at h
      obtain ⟨rfl,-,-⟩:=h
      exact ⟨by rw [hpk];rfl,fun p hp=>.inl (hnew _ p hp)⟩
     ·cases h
    ·rename_i k hpk
     split at h
     ·cases h
     ·rename_i t cs hl
      simp only [Option.some.injEq,Prod.mk.injEq] at h
      obtain ⟨rfl,-,-⟩:=h
      refine ⟨by rw [hpk];rfl,fun p hp=>?_⟩
      rcases List.mem_append.1 hp with hp | hp
      ·have:=hupd _ _ _ p hp
       rw [this]
       exact .inr ⟨by simp,by rw [hl];rfl⟩
      ·exact .inl (hnew _ p hp)
   | two p =>
    simp only [hik] at h ⊢
    split at h
    ·cases h
    ·split at h
     ·rename_i hpk
      split at h
      ·simp only [Option.some.injEq,Prod.mk.injEq] at h
       obtain ⟨rfl,-,-⟩:=h
       exact ⟨by rw [hpk];rfl,fun p hp=>.inl (hnew _ p hp)⟩
      ·cases h
     ·rename_i k hpk
      split at h
      ·cases h
      ·rename_i t cs hl
       simp only [Option.some.injEq,Prod.mk.injEq] at h
       obtain ⟨rfl,-,-⟩:=h
       refine ⟨by rw [hpk];rfl,fun p hp=>?_⟩
       rcases List.mem_append.1 hp with hp | hp
       ·have:=hupd _ _ _ p hp
        rw [this]
        exact .inr ⟨by simp,by rw [hl];rfl⟩
       ·exact .inl (hnew _ p hp)
   | call2 p =>
    simp only [hik] at h ⊢
    repeat' (split at h)
    all_goals first | cases h | skip
    all_goals exact ⟨rfl,fun p hp=>by cases hp⟩
   | auto =>
    simp only [hik] at h ⊢
    cases hmv:isMove o.op with
    | some x =>
     simp only [hmv,Option.some.injEq,Prod.mk.injEq] at h
     obtain ⟨rfl,-,-⟩:=h
     exact ⟨rfl,fun p hp=>by cases hp⟩
    | none =>
     simp only [hmv] at h ⊢
     split at h
     ·rename_i ht
      split at h
      ·split at h
       ·simp only [Option.some.injEq,Prod.mk.injEq] at h
        obtain ⟨rfl,-,-⟩:=h
        exact ⟨rfl,fun p hp=>.inl (hnew _ p hp)⟩
       ·cases h
      ·cases h
     ·rename_i k ht
      split at h
      ·cases h
      ·rename_i t cs hl
       split at h
       ·split at h
        ·simp only [Option.some.injEq,Prod.mk.injEq] at h
         obtain ⟨rfl,-,-⟩:=h
         refine ⟨rfl,fun p hp=>?_⟩
         rcases List.mem_append.1 hp with hp | hp
         ·have:=hupd _ _ _ p hp
          rw [this]
          exact .inr ⟨by simp,by rw [hl];rfl⟩
         ·exact .inl (hnew _ p hp)
        ·cases h
       ·cases h
theorem EnvOk.put {nt:Nat} {env:Env} {a:Act} (h:EnvOk nt env a) {dst:Option Tmp} {res:ORes} (hd:(match dst with | some d=>Nat.blt d nt | none=>true)=true):EnvOk nt (pushE dst res env) (a.put dst res.v):=by
 cases dst with
 | none=>exact h
 | some d =>
  have hlt:d<nt:=by simpa using hd
  refine ⟨h.defers,by simp [Act.put,h.size],fun t=>?_⟩
  simp only [Act.put,pushE,Array.getD_eq_getD_getElem?]
  by_cases htd:d=t
  ·subst htd
   have:d<a.tmps.size:=by rw [h.size];exact hlt
   simp [Array.getElem?_setIfInBounds,this,envV,look_cons_eq]
  ·rw [Array.getElem?_setIfInBounds_ne htd]
   have:=h.val t
   rw [Array.getD_eq_getD_getElem?] at this
   rw [this]
   unfold envV
   rw [look_cons_ne _ _ htd]
theorem opEval_dst {P:Program} {X:Cx} {r:Rn} {nt:Nat} {ops:Array Oper} {key:Nat} {o:Oper} {i:OpIn P X} {env:Env} {mem:Mem} {x:ORes × Eqs × Seqs}
  (h:opEval r nt ops key o i env mem=some x):(match o.dst with | some d=>Nat.blt d nt | none=>true)=true:=by
 unfold opEval at h
 split at h
 ·cases h
 ·assumption
theorem MemOk.after {X:Cx} {r r':Nat→Nat} {mem:Mem} {w w':World} {key:Nat} {wr:Mem} (h:MemOk X r mem w) (hr:∀ k,k≠key→r' k=r k) (hkey:∀ x,look key mem≠some x)
  (ha:After r' key wr w w') (hw:∀ p,p ∈ wr→p.1=key∨(look p.1 mem).isSome=true):MemOk X r' (wr++mem) w':=by
 have hne:∀ k x,look k mem=some x→k≠key:=fun k x hx e=>hkey x (e ▸ hx)
 have hrk:∀ k x,look k mem=some x→r' k=r k:=fun k x hx=>hr k (hne k x hx)
 have hlt:∀ k x,look k mem=some x→r' k<w.heap.size:=fun k x hx=>by rw [hrk k x hx];exact (h.has k x hx).1.lt
 have hbase:∀ p,p ∈ wr→X.Own (r' p.1):=fun p hp=>by
  rcases hw p hp with e | hs
  ·have:=ha.new p hp e
   rw [e]
   exact .inl (Nat.le_trans h.below.size this)
  ·obtain ⟨x,hx⟩:=Option.isSome_iff_exists.1 hs
   rw [hrk _ x hx];exact (h.has _ x hx).2
 have hall:∀ k x,look k (wr++mem)=some x→(∃ p,p ∈ wr∧p.1=k∧p.2=x)∨(look k wr=none∧look k mem=some x):=fun k x hx=>by
  rw [look_append] at hx
  cases hl:look k wr with
  | none=>rw [hl] at hx;exact .inr ⟨rfl,by simpa using hx⟩
  | some y =>
   rw [hl] at hx
   simp only [Option.some_or,Option.some.injEq] at hx
   subst hx
   exact .inl ⟨_,look_mem hl,rfl,rfl⟩
 have hinj:∀ k k' x x',look k (wr++mem)=some x→look k' (wr++mem)=some x'→r' k=r' k'→k=k':=fun k k' x x' hx hx' e=>by
  have cls:∀ k x,look k (wr++mem)=some x→(k=key∧w.heap.size≤r' key)∨∃ y,look k mem=some y:=fun k x hx=>by
   rcases hall k x hx with ⟨p,hp,rfl,rfl⟩ | ⟨-,hm⟩
   ·rcases hw p hp with e | hs
    ·exact .inl ⟨e,ha.new p hp e⟩
    ·exact .inr (Option.isSome_iff_exists.1 hs)
   ·exact .inr ⟨x,hm⟩
  rcases cls k x hx with ⟨rfl,h1⟩ | ⟨y,h1⟩ <;> rcases cls k' x' hx' with ⟨e2,h2⟩ | ⟨y',h2⟩
  ·exact e2.symm
  ·have:=hlt k' y' h2;omega
  ·subst e2;have:=hlt k y h1;omega
  ·exact h.inj k k' y y' h1 h2 (by rw [← hrk k y h1,← hrk k' y' h2];exact e)
 refine ⟨?_,fun k x hx=>?_,hinj⟩
 ·refine h.below.over ha.chg (fun y hy=>?_)
  simp only [List.map_map,List.mem_map,Function.comp_apply] at hy
  obtain ⟨p,hp,rfl⟩:=hy
  exact hbase p hp
 ·rcases hall k x hx with ⟨p,hp,rfl,rfl⟩ | ⟨hnw,hm⟩
  ·exact ⟨ha.wrote p hp,hbase p hp⟩
  ·obtain ⟨h1,h2⟩:=h.has k x hm
   rw [hrk k x hm]
   refine ⟨h1.chg ha.chg (fun hin=>?_),h2⟩
   simp only [List.map_map,List.mem_map,Function.comp_apply] at hin
   obtain ⟨p,hp,e⟩:=hin
   have hpk:∃ z,look p.1 (wr++mem)=some z:=by
    rw [look_append]
    cases hl:look p.1 wr with
    | some z=>exact ⟨z,rfl⟩
    | none=>exact absurd hl (by
      intro hl
      have:∀ l:Mem,p ∈ l→look p.1 l≠none:=fun l=>by
       induction l with
       | nil=>intro h;cases h
       | cons q l ih =>
        intro hm
        obtain ⟨qa,qx⟩:=q
        by_cases hq:qa=p.1
        ·subst hq;rw [look_cons_eq];simp
        ·rw [look_cons_ne _ _ hq]
         rcases List.mem_cons.1 hm with e | hm
         ·exact absurd (by rw [e]) hq
         ·exact ih hm
      exact this wr hp hl)
   obtain ⟨z,hz⟩:=hpk
   have:=hinj p.1 k z x hz hx (by rw [e,hrk k x hm])
   subst this
   have:∀ l:Mem,p ∈ l→look p.1 l≠none:=fun l=>by
    induction l with
    | nil=>intro h;cases h
    | cons q l ih =>
     intro hm
     obtain ⟨qa,qx⟩:=q
     by_cases hq:qa=p.1
     ·subst hq;rw [look_cons_eq];simp
     ·rw [look_cons_ne _ _ hq]
      rcases List.mem_cons.1 hm with e | hm
      ·exact absurd (by rw [e]) hq
      ·exact ih hm
   exact this wr hp hnw
end Go.Proofs.YtlhddcingeneaaaGreatDoor
namespace Go.Proofs.YtlhddcingeneaaaGreatDoor
open Go Go.RowKit
def ov {α:Type} (u:Nat→List (Nat × α)) (d:Nat→Bool) (base:List (Nat × α)):Nat→List (Nat × α)
 | 0=>base
 | n+1=>bif d n then u n++ov u d base n else ov u d base n
theorem ov_look {α:Type} {u u':Nat→List (Nat × α)} {d d':Nat→Bool} {base:List (Nat × α)} {k:Nat}:∀ N,
  (∀ j,j<N→(bif d j then look k (u j) else none)=(bif d' j then look k (u' j) else none))→look k (ov u d base N)=look k (ov u' d' base N)
 | 0,_=>rfl
 | N+1,h=>by
  have ih:=ov_look (u:=u) (u':=u') (d:=d) (d':=d') (base:=base) (k:=k) N (fun j hj=>h j (by omega))
  have h1:=h N (by omega)
  unfold ov
  cases hd:d N <;> cases hd':d' N <;> simp only [hd,hd',cond_true,cond_false] at h1 ⊢
  ·exact ih
  ·rw [look_append,← h1];simpa using ih
  ·rw [look_append,h1];simpa using ih
  ·rw [look_append,look_append,h1,ih]
theorem ov_prefix {α:Type} (u:Nat→List (Nat × α)) (base:List (Nat × α)) (i:Nat):∀ N,i≤N→ov u (fun m=>decide (m<i)) base N=ov u (fun _=>true) base i
 | 0,h=>by
  obtain rfl:i=0:=by omega
  rfl
 | N+1,h=>by
  by_cases hi:i=N+1
  ·subst hi
   have:∀ M,M≤N+1→ov u (fun m=>decide (m<N+1)) base M=ov u (fun _=>true) base M:=fun M=>by
    induction M with
    | zero=>intro _;rfl
    | succ M ih =>
     intro hM
     have hd:decide (M<N+1)=true:=by simp;omega
     simp only [ov,hd,cond_true,ih (by omega)]
   exact this _ (Nat.le_refl _)
  ·have hd:decide (N<i)=false:=by simp;omega
   have ih:=ov_prefix u base i N (by omega)
   rw [← ih]
   simp only [ov,hd,cond_false]
inductive Pth (ops:Array Oper):Nat→Nat→Prop
 | one {i j:Nat} {o:Oper} {e:Edge}:ops[i]?=some o→e ∈ o.after→Region.binds .any e=true→e.on=j→Pth ops i j
 | more {i m j:Nat} {o:Oper} {e:Edge}:ops[i]?=some o→e ∈ o.after→Region.binds .any e=true→e.on=m→Pth ops m j→Pth ops i j
theorem Pth.trans {ops:Array Oper} {i m j:Nat} (h:Pth ops i m) (k:Pth ops m j):Pth ops i j:=by
 induction h with
 | one ho he hb hj=>subst hj;exact .more ho he hb rfl k
 | more ho he hb hm _ ih=>exact .more ho he hb hm (ih k)
def Closed (ops:Array Oper) (d:Nat→Bool):Prop:=∀ x o,ops[x]?=some o→d x=true→∀ e,e ∈ o.after→Region.binds .any e=true→d e.on=true
theorem Closed.pth {ops:Array Oper} {d:Nat→Bool} (h:Closed ops d) {i j:Nat} (hp:Pth ops i j):d i=true→d j=true:=by
 induction hp with
 | one ho he hb hj=>intro hd;subst hj;exact h _ _ ho hd _ he hb
 | more ho he hb hm _ ih=>intro hd;subst hm;exact ih (h _ _ ho hd _ he hb)
theorem Closed.ready {ops:Array Oper} {d:Nat→Bool} (h:Closed ops d) {i j:Nat} {o:Oper} (ho:ops[i]?=some o) (hr:∀ e,e ∈ o.after→Region.binds .any e=true→d e.on=true) (hp:Pth ops i j):d j=true:=by
 cases hp with
 | one ho' he hb hj=>rw [ho] at ho';cases ho';subst hj;exact hr _ he hb
 | more ho' he hb hm hp'=>rw [ho] at ho';cases ho';subst hm;exact h.pth hp' (hr _ he hb)
theorem Pth.lt {ops:Array Oper} (hb:∀ j o,ops[j]?=some o→backB j o=true) {i j:Nat} (h:Pth ops i j):j<i:=by
 have back:∀ i o e,ops[i]?=some o→e ∈ o.after→Region.binds .any e=true→e.on<i:=fun i o e ho he hbd=>by
  have:=hb i o ho
  unfold backB at this
  rw [List.all_eq_true] at this
  have:=this e (by simpa using he)
  simpa [hbd] using this
 induction h with
 | one ho he hbd hj=>subst hj;exact back _ _ _ ho he hbd
 | more ho he hbd hm _ ih=>subst hm;have:=back _ _ _ ho he hbd;omega
theorem mskFold (l:List Nat) (m:Nat):∀ (es:List Edge) (a:Nat),(es.foldl (fun m e=>bif Region.binds .any e then m ||| (1 <<< e.on) ||| l.getD e.on 0 else m) a).testBit m=true →
  a.testBit m=true∨∃ e,e ∈ es∧Region.binds .any e=true∧(e.on=m∨(l.getD e.on 0).testBit m=true)
 | [],a,h=>.inl h
 | e :: es,a,h=>by
  rcases mskFold l m es _ h with h1 | ⟨e',he,h1⟩
  ·cases hb:Region.binds .any e with
   | false=>simp only [hb,cond_false] at h1;exact .inl h1
   | true =>
    simp only [hb,cond_true,Nat.testBit_or,Bool.or_eq_true,Nat.one_shiftLeft,Nat.testBit_two_pow,decide_eq_true_eq] at h1
    rcases h1 with (h1 | h1) | h1
    ·exact .inl h1
    ·exact .inr ⟨e,List.mem_cons_self,hb,.inl h1⟩
    ·exact .inr ⟨e,List.mem_cons_self,hb,.inr h1⟩
  ·exact .inr ⟨e',List.mem_cons_of_mem _ he,h1⟩
theorem msk_length (ops:Array Oper):∀ n,(msk ops n).length=n
 | 0=>rfl
 | n+1=>by simp [msk,msk_length ops n]
theorem msk_get (ops:Array Oper) (j:Nat):∀ n,j<n→(msk ops n).getD j 0=match ops[j]? with | some o=>mskOf (msk ops j) o | none=>0
 | 0,h=>by omega
 | n+1,h=>by
  have hl:=msk_length ops n
  simp only [msk,List.getD_eq_getElem?_getD]
  by_cases hj:j<n
  ·rw [List.getElem?_append_left (by omega)]
   have:=msk_get ops j n hj
   rw [List.getD_eq_getElem?_getD] at this
   exact this
  ·obtain rfl:j=n:=by omega
   rw [List.getElem?_append_right (by omega)]
   simp [hl]
theorem msk_pth (ops:Array Oper) (n m:Nat):∀ j,j<n→((msk ops n).getD j 0).testBit m=true→Pth ops j m:=by
 intro j
 induction j using Nat.strongRecOn with
 | _ j ih =>
  intro hj h
  rw [msk_get ops j n hj] at h
  cases ho:ops[j]? with
  | none=>rw [ho] at h;simp at h
  | some o =>
   rw [ho] at h
   simp only [mskOf] at h
   rcases mskFold _ m _ _ h with h | ⟨e,he,hb,h⟩
   ·simp at h
   ·have he':e ∈ o.after:=by simpa using he
    rcases h with h | h
    ·exact .one ho he' hb h
    ·by_cases hlt:e.on<j
     ·refine .more ho he' hb rfl (ih e.on hlt (by omega) ?_)
      rw [msk_get ops _ _ hlt] at h
      rw [msk_get ops _ _ (by omega)]
      exact h
     ·rw [List.getD_eq_getElem?_getD,List.getElem?_eq_none (by rw [msk_length];omega)] at h
      simp at h
section
variable {P:Program} {X:Cx} {nt:Nat} {ops:Array Oper} {key:Nat} {ins:List (OpIn P X)} {e0:Env} {m0:Mem}
def uE (ops:Array Oper) (R:Nat→ORes) (j:Nat):Env:=match ops[j]? with
 | some o=>pushE o.dst (R j) []
 | none=>[]
def uM (R:Nat→ORes) (j:Nat):Mem:=(R j).wr
theorem pushE_nil (dst:Option Tmp) (res:ORes) (env:Env):pushE dst res env=pushE dst res []++env:=by cases dst <;> rfl
structure Run (P:Program) (X:Cx) (r:Rn) (nt:Nat) (ops:Array Oper) (key:Nat) (ins:List (OpIn P X)) (e0:Env) (m0:Mem) (R:Nat→ORes):Prop where
 step:∀ j,j<ops.size→∃ o i e q,ops[j]?=some o∧ins[j]?=some i∧opEval r nt ops (key+j) o i (ov (uE ops R) (fun _=>true) e0 j) (ov (uM R) (fun _=>true) m0 j)=some (R j,e,q) ∧
  (∀ p,p ∈ e→p.1=p.2)∧(∀ p,p ∈ q→p.1=p.2)
def resOf (x:Option RS):ORes:=match x with
 | some s=>match s.rs with
  | a :: _=>a
  | []=>⟨undef,0,[],[]⟩
 | none=>⟨undef,0,[],[]⟩
def vmR' (r:Rn) (nt:Nat) (ops:Array Oper) (key:Nat) (ins:List (OpIn P X)) (e0:Env) (m0:Mem) (j:Nat):ORes:=resOf (vmUp r nt ops key ins e0 m0 (j+1))
theorem vmUp_run {r:Rn}:∀ N s,N≤ops.size→vmUp r nt ops key ins e0 m0 N=some s→(∀ p,p ∈ s.es→p.1=p.2)→(∀ p,p ∈ s.ss→p.1=p.2) →
  s.env=ov (uE ops (vmR' r nt ops key ins e0 m0)) (fun _=>true) e0 N∧s.mem=ov (uM (vmR' r nt ops key ins e0 m0)) (fun _=>true) m0 N∧s.rs.length=N ∧
  (∀ j,j<N→s.rs.reverse[j]?=some (vmR' r nt ops key ins e0 m0 j)) ∧
  ∀ j,j<N→∃ o i e q,ops[j]?=some o∧ins[j]?=some i∧opEval r nt ops (key+j) o i (ov (uE ops (vmR' r nt ops key ins e0 m0)) (fun _=>true) e0 j) (ov (uM (vmR' r nt ops key ins e0 m0)) (fun _=>true) m0 j)=some (vmR' r nt ops key ins e0 m0 j,e,q) ∧
   (∀ p,p ∈ e→p.1=p.2)∧(∀ p,p ∈ q→p.1=p.2)
 | 0,s,_,h,_,_=>by
  simp only [vmUp,Option.some.injEq] at h
  subst h
  exact ⟨rfl,rfl,rfl,fun j hj=>by omega,fun j hj=>by omega⟩
 | N+1,s,hN,h,he,hq=>by
  have hh:=h
  simp only [vmUp] at h
  split at h
  ·cases h
  ·rename_i s1 h1
   split at h
   ·rename_i o i ho hi
    split at h
    ·cases h
    ·rename_i res e q hev
     simp only [Option.some.injEq] at h
     subst h
     have hR:vmR' r nt ops key ins e0 m0 N=res:=by unfold vmR';rw [hh];rfl
     obtain ⟨i1,i2,i3,i4,i5⟩:=vmUp_run N s1 (by omega) h1 (fun p hp=>he p (List.mem_append_right _ hp)) (fun p hp=>hq p (List.mem_append_right _ hp))
     refine ⟨?_,?_,by simp [i3],fun j hj=>?_,fun j hj=>?_⟩
     ·simp only [ov,cond_true]
      rw [pushE_nil,i1]
      have:uE ops (vmR' r nt ops key ins e0 m0) N=pushE o.dst res []:=by unfold uE;rw [ho,hR]
      rw [this]
     ·simp only [ov,cond_true,i2]
      have:uM (vmR' r nt ops key ins e0 m0) N=res.wr:=by unfold uM;rw [hR]
      rw [this]
     ·rw [List.reverse_cons]
      by_cases hjN:j<N
      ·rw [List.getElem?_append_left (by simp [i3];exact hjN)];exact i4 j hjN
      ·obtain rfl:j=N:=by omega
       rw [List.getElem?_append_right (by simp [i3])]
       simp [i3,hR]
     ·by_cases hjN:j<N
      ·exact i5 j hjN
      ·obtain rfl:j=N:=by omega
       refine ⟨o,i,e,q,ho,hi,?_,fun p hp=>he p (List.mem_append_left _ hp),fun p hp=>hq p (List.mem_append_left _ hp)⟩
       rw [← i1,← i2,hR];exact hev
   ·cases h
def KeysLt (m0:Mem) (key:Nat):Prop:=∀ k x,look k m0=some x→k<key
theorem ov_keys {R:Nat→ORes} {r:Rn} (hk:KeysLt m0 key) (hR:Run P X r nt ops key ins e0 m0 R):∀ N,N≤ops.size→KeysLt (ov (uM R) (fun _=>true) m0 N) (key+N)
 | 0,_=>hk
 | N+1,hN=>fun k x hx=>by
  have ih:=ov_keys hk hR N (by omega)
  obtain ⟨o,i,e,q,ho,hi,hev,-,-⟩:=hR.step N (by omega)
  obtain ⟨ht,hw⟩:=opEval_tch hev
  simp only [ov,cond_true,look_append] at hx
  cases hl:look k (uM R N) with
  | some y =>
   rcases hw _ (look_mem hl) with h1 | ⟨-,h1⟩
   ·simp only at h1;omega
   ·obtain ⟨z,hz⟩:=Option.isSome_iff_exists.1 h1
    have:=ih _ _ hz
    simp only at this;omega
  | none =>
   rw [hl] at hx
   have:=ih k x (by simpa using hx)
   omega
theorem seq_ops {r0:Rn} {Q:Exit→Act→World→Prop} (hk:KeysLt m0 key) (RR:Rn→Nat→ORes)
  (hrun:∀ r,(∀ k,k<key→r k=r0 k)→Run P X r nt ops key ins e0 m0 (RR r))
  (hcon:∀ r r' j,j≤ops.size→(∀ k,k<key+j→r k=r' k)→Run P X r nt ops key ins e0 m0 (RR r)→Run P X r' nt ops key ins e0 m0 (RR r')→∀ m,m<j→RR r m=RR r' m)
  (hQ:∀ r a w,(∀ k,k<key→r k=r0 k)→EnvOk nt (ov (uE ops (RR r)) (fun _=>true) e0 ops.size) a→MemOk X (rB r) (ov (uM (RR r)) (fun _=>true) m0 ops.size) w→Q .normal a w) :
  ∀ (n j:Nat) (r:Rn) (a:Act) (w:World),j+n=ops.size→(∀ k,k<key→r k=r0 k)→EnvOk nt (ov (uE ops (RR r)) (fun _=>true) e0 j) a→MemOk X (rB r) (ov (uM (RR r)) (fun _=>true) m0 j) w →
   wpOps P ops Q (List.range' j n) a w
 | 0,j,r,a,w,hj,hr,hE,hM=>by
  obtain rfl:j=ops.size:=by omega
  exact hQ r a w hr hE hM
 | n+1,j,r,a,w,hj,hr,hE,hM=>by
  have R0:=hrun r hr
  obtain ⟨o,i,e,q,ho,hi,hev,-,-⟩:=R0.step j (by omega)
  obtain ⟨ht,hw⟩:=opEval_tch hev
  rw [List.range'_succ,wpOps_cons]
  have hkm:KeysLt (ov (uM (RR r)) (fun _=>true) m0 j) (key+j):=ov_keys hk R0 j (by omega)
  have hr':∀ m k,k<key→updR r (key+j) m k=r0 k:=fun m k hx=>by
   rw [updR_ne r (by omega)];exact hr k hx
  have hRm:=fun m=>hrun _ (hr' m)
  have hsame:∀ m x,x<j→RR r x=RR (updR r (key+j) m) x:=fun m=>hcon _ _ j (by omega) (fun k hk'=>(updR_ne r (by omega)).symm) R0 (hRm m)
  have hoE:∀ m,ov (uE ops (RR (updR r (key+j) m))) (fun _=>true) e0 j=ov (uE ops (RR r)) (fun _=>true) e0 j:=fun m=>by
   have:∀ x,x≤j→ov (uE ops (RR (updR r (key+j) m))) (fun _=>true) e0 x=ov (uE ops (RR r)) (fun _=>true) e0 x:=fun x=>by
    induction x with
    | zero=>intro _;rfl
    | succ x ih=>intro hx;simp only [ov,cond_true,ih (by omega)];congr 1;unfold uE;rw [hsame m x (by omega)]
   exact this j (Nat.le_refl _)
  have hoM:∀ m,ov (uM (RR (updR r (key+j) m))) (fun _=>true) m0 j=ov (uM (RR r)) (fun _=>true) m0 j:=fun m=>by
   have:∀ x,x≤j→ov (uM (RR (updR r (key+j) m))) (fun _=>true) m0 x=ov (uM (RR r)) (fun _=>true) m0 x:=fun x=>by
    induction x with
    | zero=>intro _;rfl
    | succ x ih=>intro hx;simp only [ov,cond_true,ih (by omega)];congr 1;unfold uM;rw [hsame m x (by omega)]
   exact this j (Nat.le_refl _)
  have hdst:=opEval_dst hev
  have hfam:∀ m,∃ e q,opEval (updR r (key+j) m) nt ops (key+j) o i (ov (uE ops (RR r)) (fun _=>true) e0 j) (ov (uM (RR r)) (fun _=>true) m0 j)=some (RR (updR r (key+j) m) j,e,q)∧(∀ p,p ∈ e→p.1=p.2)∧(∀ p,p ∈ q→p.1=p.2):=fun m=>by
   obtain ⟨o',i',e',q',ho',hi',hev',h1,h2⟩:=(hRm m).step j (by omega)
   rw [ho] at ho';cases ho'
   rw [hi] at hi';cases hi'
   rw [hoE,hoM] at hev'
   exact ⟨e',q',hev',h1,h2⟩
  have hnk:∀ x,look (key+j) (ov (uM (RR r)) (fun _=>true) m0 j)≠some x:=fun x hx=>by have:=hkm _ _ hx;omega
  have hst:=opEval_sound (P:=P) (X:=X) (r:=r) (nt:=nt) (ops:=ops) (key:=key+j) (o:=o) (i:=i) (env:=ov (uE ops (RR r)) (fun _=>true) e0 j) (env':=ov (uE ops (RR r)) (fun _=>true) e0 j) (mem:=ov (uM (RR r)) (fun _=>true) m0 j) (a:=a) (w:=w)
   (res:=fun m=>RR (updR r (key+j) m) j) (es:=fun m=>Classical.choose (hfam m)) (ss:=fun m=>Classical.choose (Classical.choose_spec (hfam m)))
   (fun m=>(Classical.choose_spec (Classical.choose_spec (hfam m))).1) (fun m=>(Classical.choose_spec (Classical.choose_spec (hfam m))).2.1) (fun m=>(Classical.choose_spec (Classical.choose_spec (hfam m))).2.2)
   hE rfl rfl hM.below (fun k _ x hx=>hM.has k x hx) hnk (wpOps P ops Q (List.range' (j+1) n)) Q (fun m w' ha=>by
    refine seq_ops hk RR hrun hcon hQ n (j+1) (updR r (key+j) m) _ w' (by omega) (hr' m) ?_ ?_
    ·simp only [ov,cond_true]
     rw [hoE]
     have:uE ops (RR (updR r (key+j) m)) j=pushE o.dst (RR (updR r (key+j) m) j) []:=by unfold uE;rw [ho]
     rw [this,← pushE_nil]
     exact hE.put hdst
    ·simp only [ov,cond_true]
     rw [hoM]
     obtain ⟨e',q',hev',-,-⟩:=hfam m
     have hw':=(opEval_tch hev').2
     exact hM.after (fun k hk'=>rB_ne r hk') hnk ha (fun p hp=>(hw' p hp).imp id (fun h=>h.2)))
  unfold wpOp
  simp only [ho]
  unfold Step at hst
  split at hst
  ·rename_i hwn;rw [if_pos hwn];exact .inl hst
  ·rename_i hwn;rw [if_neg hwn];exact hst
end
end Go.Proofs.YtlhddcingeneaaaGreatDoor
namespace Go.Proofs.YtlhddcingeneaaaGreatDoor
open Go Go.RowKit
section
variable {P:Program} {X:Cx} {nt:Nat} {ops:Array Oper} {key:Nat} {ins:List (OpIn P X)} {e0:Env} {m0:Mem}
theorem not_meets {l m:List Nat} (h:meets l m=false) {x:Nat} (hx:x ∈ l):x ∉ m:=fun hm=>by
 unfold meets at h
 rw [List.any_eq_false] at h
 have:=h x hx
 simp only [List.any_eq_true,not_exists,not_and] at this
 exact this x hm (by simp)
theorem not_dstIn {o:Oper} {l:List Nat} (h:dstIn o l=false) {d:Nat} (hd:o.dst=some d):d ∉ l:=fun hm=>by
 unfold dstIn at h
 rw [hd] at h
 simp only [List.any_eq_false] at h
 exact h d hm (by simp)
theorem indep_spec {om oj:Oper} {rm rj:ORes} (h:indep ops om oj rm rj=true) :
  (∀ d,om.dst=some d→d ∉ oj.looksAt ops)∧(∀ d,om.dst=some d→oj.dst≠some d)∧(∀ p,p ∈ rm.wr→p.1 ∉ rj.tch)∧(∀ p,p ∈ rm.wr→∀ p',p' ∈ rj.wr→p.1≠p'.1):=by
 simp only [indep,Bool.and_eq_true,Bool.not_eq_true'] at h
 obtain ⟨⟨⟨h1,h2⟩,h3⟩,h4⟩:=h
 refine ⟨fun d hd=>not_dstIn h1 hd,fun d hd he=>not_dstIn h2 hd (by rw [he];simp),fun p hp=>not_meets h3 (List.mem_map.2 ⟨p,hp,rfl⟩),fun p hp p' hp' e=>not_meets h4 (List.mem_map.2 ⟨p,hp,rfl⟩) (List.mem_map.2 ⟨p',hp',e.symm⟩)⟩
structure RegFacts (ops:Array Oper) (key:Nat) (R:Nat→ORes):Prop where
 sel:∀ (j:Nat) (o:Oper) cs b,ops[j]?=some o→o.op ≠ .select cs b
 back:∀ j o,ops[j]?=some o→backB j o=true
 tch:∀ j,j<ops.size→∀ k,k ∈ (R j).tch→k<key∨Pth ops j (k - key)
 pair:∀ j m om oj,m<j→ops[m]?=some om→ops[j]?=some oj→Pth ops j m∨(indep ops om oj (R m) (R j)=true∧indep ops oj om (R j) (R m)=true)
theorem regOk_facts {rs:List ORes} {R:Nat→ORes} (h:regOk ops key rs=true) (hR:∀ j,j<ops.size→rs[j]?=some (R j)):RegFacts ops key R:=by
 simp only [regOk,Bool.and_eq_true,List.all_eq_true,List.mem_range] at h
 obtain ⟨hs,hj⟩:=h
 have lt:∀ {j:Nat} {o:Oper},ops[j]?=some o→j<ops.size:=fun ho=>(Array.getElem?_eq_some_iff.1 ho).1
 have hat:∀ j o,ops[j]?=some o→backB j o=true∧(∀ k,k ∈ (R j).tch→k<key∨((msk ops ops.size).getD j 0).testBit (k - key)=true) ∧
   ∀ m,m<j→((msk ops ops.size).getD j 0).testBit m=true∨∃ om,ops[m]?=some om∧indep ops om o (R m) (R j)=true∧indep ops o om (R j) (R m)=true:=fun j o ho=>by
  have h1:=hj j (lt ho)
  simp only [okAt,ho,hR j (lt ho),Bool.and_eq_true,List.all_eq_true,List.mem_range,Bool.or_eq_true] at h1
  obtain ⟨⟨h2,h3⟩,h4⟩:=h1
  refine ⟨h2,fun k hk=>(h3 k hk).imp (fun h=>by simpa using h) id,fun m hm=>?_⟩
  rcases h4 m hm with h5 | h5
  ·exact .inl h5
  ·right
   split at h5
   ·rename_i om rm hom hrm
    rw [hR m (by have:=lt ho;omega)] at hrm
    cases hrm
    simp only [Bool.and_eq_true] at h5
    exact ⟨om,hom,h5⟩
   ·cases h5
 refine ⟨fun j o cs b ho=>Region.noSelect_spec hs j o cs b ho,fun j o ho=>(hat j o ho).1,fun j hjl k hk=>?_,fun j m om oj hm hom hoj=>?_⟩
 ·obtain ⟨o,ho⟩:∃ o,ops[j]?=some o:=⟨ops[j],Array.getElem?_eq_getElem hjl⟩
  exact ((hat j o ho).2.1 k hk).imp id (msk_pth ops ops.size _ j hjl)
 ·rcases (hat j oj hoj).2.2 m hm with h | ⟨om',ho',h1,h2⟩
  ·exact .inl (msk_pth ops ops.size _ j (lt hoj) h)
  ·rw [hom] at ho';cases ho';exact .inr ⟨h1,h2⟩
theorem look_pushE {dst:Option Tmp} {res:ORes} {t:Tmp} (h:dst≠some t):look t (pushE dst res [])=none:=by
 cases dst with
 | none=>rfl
 | some d=>exact look_none (fun p hp=>by simp only [pushE,List.mem_singleton] at hp;subst hp;exact fun e=>h (congrArg some e))
theorem look_wr {wr:Mem} {k:Nat} (h:∀ p,p ∈ wr→p.1≠k):look k wr=none:=look_none h
theorem seen_env {R:Nat→ORes} (F:RegFacts ops key R) {d:Nat→Bool} {i:Nat} {oi:Oper} (hi:ops[i]?=some oi) (hd:Closed ops d) (hdi:d i=false) (hpre:∀ j,Pth ops i j→d j=true)
  {t:Tmp} (ht:t ∈ oi.looksAt ops):look t (ov (uE ops R) d e0 ops.size)=look t (ov (uE ops R) (fun _=>true) e0 i):=by
 rw [← ov_prefix (uE ops R) e0 i ops.size (by have:=(Array.getElem?_eq_some_iff.1 hi).1;omega)]
 refine ov_look _ (fun j hj=>?_)
 obtain ⟨oj,hoj⟩:∃ o,ops[j]?=some o:=⟨ops[j],Array.getElem?_eq_getElem hj⟩
 have hu:uE ops R j=pushE oj.dst (R j) []:=by unfold uE;rw [hoj]
 have key1:d j≠decide (j<i)→look t (uE ops R j)=none:=fun hne=>by
  rw [hu]
  refine look_pushE (fun e=>?_)
  by_cases hji:j<i
  ·have hdj:d j=false:=by cases h:d j <;> simp_all
   rcases F.pair i j oj oi hji hoj hi with hp | ⟨h1,h2⟩
   ·rw [hpre j hp] at hdj;cases hdj
   ·exact (indep_spec h1).1 t e ht
  ·by_cases hjj:j=i
   ·subst hjj;simp [hdi] at hne
   ·have hdj:d j=true:=by cases h:d j <;> simp_all
    rcases F.pair j i oi oj (by omega) hi hoj with hp | ⟨h1,h2⟩
    ·rw [hd.pth hp hdj] at hdi;cases hdi
    ·exact (indep_spec h2).1 t e ht
 by_cases he:d j=decide (j<i)
 ·rw [he]
 ·rw [key1 he];cases d j <;> cases decide (j<i) <;> rfl
theorem seen_mem {R:Nat→ORes} (F:RegFacts ops key R) {d:Nat→Bool} {i:Nat} {oi:Oper} (hi:ops[i]?=some oi) (hd:Closed ops d) (hdi:d i=false) (hpre:∀ j,Pth ops i j→d j=true)
  {k:Nat} (hk:k ∈ (R i).tch):look k (ov (uM R) d m0 ops.size)=look k (ov (uM R) (fun _=>true) m0 i):=by
 rw [← ov_prefix (uM R) m0 i ops.size (by have:=(Array.getElem?_eq_some_iff.1 hi).1;omega)]
 refine ov_look _ (fun j hj=>?_)
 obtain ⟨oj,hoj⟩:∃ o,ops[j]?=some o:=⟨ops[j],Array.getElem?_eq_getElem hj⟩
 have key1:d j≠decide (j<i)→look k (uM R j)=none:=fun hne=>by
  refine look_wr (fun p hp e=>?_)
  by_cases hji:j<i
  ·have hdj:d j=false:=by cases h:d j <;> simp_all
   rcases F.pair i j oj oi hji hoj hi with hp' | ⟨h1,h2⟩
   ·rw [hpre j hp'] at hdj;cases hdj
   ·exact (indep_spec h1).2.2.1 p hp (e ▸ hk)
  ·by_cases hjj:j=i
   ·subst hjj;simp [hdi] at hne
   ·have hdj:d j=true:=by cases h:d j <;> simp_all
    rcases F.pair j i oi oj (by omega) hi hoj with hp' | ⟨h1,h2⟩
    ·rw [hd.pth hp' hdj] at hdi;cases hdi
    ·exact (indep_spec h2).2.2.1 p hp (e ▸ hk)
 by_cases he:d j=decide (j<i)
 ·rw [he]
 ·rw [key1 he];cases d j <;> cases decide (j<i) <;> rfl
theorem same_env {R R':Nat→ORes} (F:RegFacts ops key R) (F':RegFacts ops key R') {j:Nat} {oj:Oper} (hj:ops[j]?=some oj) (h:∀ m,Pth ops j m→R m=R' m) {t:Tmp} (ht:t ∈ oj.looksAt ops) :
  look t (ov (uE ops R) (fun _=>true) e0 j)=look t (ov (uE ops R') (fun _=>true) e0 j):=by
 refine ov_look _ (fun m hm=>?_)
 simp only [cond_true]
 obtain ⟨om,hom⟩:∃ o,ops[m]?=some o:=⟨ops[m]'(by have:=(Array.getElem?_eq_some_iff.1 hj).1;omega),Array.getElem?_eq_getElem _⟩
 have hu:∀ R,uE ops R m=pushE om.dst (R m) []:=fun R=>by unfold uE;rw [hom]
 rw [hu,hu]
 rcases F.pair j m om oj hm hom hj with hp | ⟨h1,-⟩
 ·rw [h m hp]
 ·rw [look_pushE,look_pushE] <;> exact fun e=>(indep_spec h1).1 t e ht
theorem same_mem {R R':Nat→ORes} (F:RegFacts ops key R) (F':RegFacts ops key R') {j:Nat} {oj:Oper} (hj:ops[j]?=some oj) (h:∀ m,Pth ops j m→R m=R' m) {k:Nat} (hk:k ∈ (R j).tch) (hk':k ∈ (R' j).tch) :
  look k (ov (uM R) (fun _=>true) m0 j)=look k (ov (uM R') (fun _=>true) m0 j):=by
 refine ov_look _ (fun m hm=>?_)
 simp only [cond_true]
 obtain ⟨om,hom⟩:∃ o,ops[m]?=some o:=⟨ops[m]'(by have:=(Array.getElem?_eq_some_iff.1 hj).1;omega),Array.getElem?_eq_getElem _⟩
 rcases F.pair j m om oj hm hom hj with hp | ⟨h1,-⟩
 ·unfold uM;rw [h m hp]
 ·rcases F'.pair j m om oj hm hom hj with hp | ⟨h2,-⟩
  ·unfold uM;rw [h m hp]
  ·rw [look_wr,look_wr]
   ·exact fun p hp e=>(indep_spec h2).2.2.1 p hp (e ▸ hk')
   ·exact fun p hp e=>(indep_spec h1).2.2.1 p hp (e ▸ hk)
theorem nonint {r r':Rn} {R R':Nat→ORes} {i:Nat} (hr:∀ k,k≠key+i→r k=r' k) (h:Run P X r nt ops key ins e0 m0 R) (h':Run P X r' nt ops key ins e0 m0 R') (F:RegFacts ops key R) (F':RegFacts ops key R') :
  ∀ j,j<ops.size→j≠i→¬ Pth ops j i→R j=R' j:=by
 intro j
 induction j using Nat.strongRecOn with
 | _ j ih =>
  intro hj hji hp
  obtain ⟨o,x,e,q,ho,hx,hev,-,-⟩:=h.step j hj
  obtain ⟨o',x',e',q',ho',hx',hev',-,-⟩:=h'.step j hj
  rw [ho] at ho';cases ho'
  rw [hx] at hx';cases hx'
  have hpre:∀ m,Pth ops j m→R m=R' m:=fun m hm=>ih m (hm.lt F.back) (by have:=hm.lt F.back;omega) (fun e=>hp (e ▸ hm)) (fun hmi=>hp (hm.trans hmi))
  have hE:∀ t,t ∈ o.looksAt ops→look t (ov (uE ops R) (fun _=>true) e0 j)=look t (ov (uE ops R') (fun _=>true) e0 j):=fun t ht=>same_env F F' ho hpre ht
  have htc:=opTch_congr (i:=x) hE
  have t1:=(opEval_tch hev).1
  have t2:=(opEval_tch hev').1
  have heq:opEval r nt ops (key+j) o x (ov (uE ops R) (fun _=>true) e0 j) (ov (uM R) (fun _=>true) m0 j)=opEval r' nt ops (key+j) o x (ov (uE ops R') (fun _=>true) e0 j) (ov (uM R') (fun _=>true) m0 j):=by
   refine opEval_congr (fun cs b=>F.sel j o cs b ho) hE (fun k hk=>?_) (hr _ (by omega))
   have hk1:k ∈ (R j).tch:=by rw [t1];exact hk
   have hk2:k ∈ (R' j).tch:=by rw [t2,← htc];exact hk
   refine ⟨same_mem F F' ho hpre hk1 hk2,fun _=>hr k (fun ek=>?_)⟩
   rcases F.tch j hj k hk1 with h3 | h3
   ·omega
   ·rw [ek,show key+i - key=i by omega] at h3;exact hp h3
  rw [hev,hev'] at heq
  simp only [Option.some.injEq,Prod.mk.injEq] at heq
  exact heq.1
theorem getD_replicate_false' (n j:Nat):(Array.replicate n false).getD j false=false:=by
 by_cases hj:j<n <;> simp [Array.getD_eq_getD_getElem?,hj]
def cnt (d:Nat→Bool):Nat→Nat
 | 0=>0
 | n+1=>(bif d n then 0 else 1)+cnt d n
theorem cnt_set {d:Nat→Bool} {i:Nat} (hd:d i=false):∀ n,i<n→cnt d n=cnt (fun j=>if j=i then true else d j) n+1
 | 0,h=>by omega
 | n+1,h=>by
  have low:∀ m,m≤i→cnt (fun j=>if j=i then true else d j) m=cnt d m:=fun m=>by
   induction m with
   | zero=>intro _;rfl
   | succ m ih=>intro hm;simp only [cnt,ih (by omega)];rw [if_neg (by omega)]
  by_cases hi:i=n
  ·subst hi;simp only [cnt,hd,low i (Nat.le_refl _)];simp;omega
  ·have:=cnt_set hd n (by omega)
   simp only [cnt];rw [if_neg (fun e=>hi e.symm),this];omega
theorem cnt_zero {d:Nat→Bool}:∀ n,cnt d n=0→∀ j,j<n→d j=true
 | 0,_,j,hj=>by omega
 | n+1,h,j,hj=>by
  simp only [cnt] at h
  by_cases e:j=n
  ·subst e;cases hd:d j <;> simp_all
  ·exact cnt_zero n (by omega) j (by omega)
theorem ov_all {α:Type} {u:Nat→List (Nat × α)} {d:Nat→Bool} {base:List (Nat × α)}:∀ N,(∀ j,j<N→d j=true)→ov u d base N=ov u (fun _=>true) base N
 | 0,_=>rfl
 | N+1,h=>by simp only [ov,h N (by omega),cond_true];rw [ov_all N (fun j hj=>h j (by omega))]
theorem ov_no {α:Type} {u:Nat→List (Nat × α)} {d:Nat→Bool} {base:List (Nat × α)}:∀ N,(∀ j,j<N→d j=false)→ov u d base N=base
 | 0,_=>rfl
 | N+1,h=>by simp only [ov,h N (by omega),cond_false];exact ov_no N (fun j hj=>h j (by omega))
theorem ov_congr {α:Type} {u u':Nat→List (Nat × α)} {d d':Nat→Bool} {base:List (Nat × α)}:∀ N,(∀ j,j<N→d j=d' j∧(d j=true→u j=u' j))→ov u d base N=ov u' d' base N
 | 0,_=>rfl
 | N+1,h=>by
  have ih:=ov_congr (u:=u) (u':=u') (d:=d) (d':=d') (base:=base) N (fun j hj=>h j (by omega))
  obtain ⟨h1,h2⟩:=h N (by omega)
  simp only [ov,ih,h1]
  cases hd:d' N with
  | false=>rfl
  | true=>rw [h2 (h1.trans hd)]
theorem ov_put {α:Type} {u:Nat→List (Nat × α)} {d:Nat→Bool} {base:List (Nat × α)} {i:Nat} (hi:d i=false) {N:Nat} (hN:i<N) {k:Nat}
  (hlate:∀ j,j<N→d j=true→i<j→∀ p,p ∈ u j→look p.1 (u i)=none) :
  look k (ov u (fun j=>if j=i then true else d j) base N)=look k (u i++ov u d base N):=by
 have key:∀ M,i<M→M≤N→look k (ov u (fun j=>if j=i then true else d j) base M)=look k (u i++ov u d base M):=fun M=>by
  induction M with
  | zero=>intro h;omega
  | succ M ih =>
   intro h1 h2
   by_cases e:i=M
   ·subst e
    have hc:ov u (fun j=>if j=i then true else d j) base i=ov u d base i:=ov_congr i (fun j hj=>⟨by simp;omega,fun _=>rfl⟩)
    simp only [ov,hi,cond_false,if_true,cond_true,hc]
   ·have ih':=ih (by omega) (by omega)
    simp only [ov]
    rw [if_neg (fun e'=>e e'.symm)]
    cases hd:d M with
    | false=>exact ih'
    | true =>
     simp only [cond_true]
     rw [look_append,ih',look_append,look_append,look_append]
     cases hu:look k (u M) with
     | none=>simp
     | some y =>
      have h3:=hlate M (by omega) hd (by omega) _ (look_mem hu)
      simp only at h3
      rw [h3];simp
 exact key N hN (Nat.le_refl _)
theorem any_ops {r0:Rn} {Q:Exit→Act→World→Prop} (hk:KeysLt m0 key) (RR:Rn→Nat→ORes)
  (hrun:∀ r,(∀ k,k<key→r k=r0 k)→Run P X r nt ops key ins e0 m0 (RR r)∧RegFacts ops key (RR r))
  (hQ:∀ r a w,(∀ k,k<key→r k=r0 k)→EnvOk nt (ov (uE ops (RR r)) (fun _=>true) e0 ops.size) a→MemOk X (rB r) (ov (uM (RR r)) (fun _=>true) m0 ops.size) w→Q .normal a w) :
  ∀ (f:Nat) (listed:Array Bool) (r:Rn) (a:Act) (w:World),listed.size=ops.size→cnt (fun j=>listed.getD j false) ops.size=f→Closed ops (fun j=>listed.getD j false) →
   (∀ k,k<key→r k=r0 k)→EnvOk nt (ov (uE ops (RR r)) (fun j=>listed.getD j false) e0 ops.size) a→MemOk X (rB r) (ov (uM (RR r)) (fun j=>listed.getD j false) m0 ops.size) w →
   wpAny P .any ops Q f listed a w:=by
 have hfin:∀ (listed:Array Bool) (r:Rn) (a:Act) (w:World),(∀ j,j<ops.size→listed.getD j false=true)→(∀ k,k<key→r k=r0 k)→EnvOk nt (ov (uE ops (RR r)) (fun j=>listed.getD j false) e0 ops.size) a→MemOk X (rB r) (ov (uM (RR r)) (fun j=>listed.getD j false) m0 ops.size) w→Q .normal a w:=fun listed r a w hall hr hE hM =>
  hQ r a w hr (by rw [← ov_all (u:=uE ops (RR r)) (base:=e0) ops.size hall];exact hE) (by rw [← ov_all (u:=uM (RR r)) (base:=m0) ops.size hall];exact hM)
 have hrd:∀ (listed:Array Bool) (r:Rn),listed.size=ops.size→(∀ k,k<key→r k=r0 k)→Region.ready .any ops listed = []→∀ j,j<ops.size→listed.getD j false=true:=fun listed r hsz hr hnil j=>by
  induction j using Nat.strongRecOn with
  | _ j ih =>
   intro hj
   cases hd:listed.getD j false with
   | true=>rfl
   | false =>
    exfalso
    obtain ⟨o,ho⟩:∃ o,ops[j]?=some o:=⟨ops[j],Array.getElem?_eq_getElem hj⟩
    have F:=(hrun r hr).2
    have:j ∈ Region.ready .any ops listed:=mem_ready.2 ⟨by
      have hjl:j<listed.size:=by omega
      simp only [Array.getD_eq_getD_getElem?,Array.getElem?_eq_getElem hjl,Option.getD_some] at hd ⊢;exact hd,o,ho,fun e he hb=>by
     have hb':=F.back j o ho
     unfold backB at hb'
     rw [List.all_eq_true] at hb'
     have hlt:=hb' e (by simpa using he)
     rw [hb] at hlt
     have hlt':e.on<j:=by simpa using hlt
     exact ih e.on hlt' (by omega)⟩
    rw [hnil] at this
    cases this
 intro f
 induction f with
 | zero =>
  intro listed r a w hsz hc hcl hr hE hM
  have hall:=cnt_zero _ hc
  refine ⟨?_,hfin listed r a w hall hr hE hM⟩
  refine List.eq_nil_iff_forall_not_mem.2 (fun j hj=>?_)
  obtain ⟨h0,o,ho,-⟩:=mem_ready.1 hj
  have hjl:=(Array.getElem?_eq_some_iff.1 ho).1
  have h1:=hall j hjl
  have hjl':j<listed.size:=by omega
  simp only [Array.getD_eq_getD_getElem?,Array.getElem?_eq_getElem hjl',Option.getD_some] at h0 h1
  rw [h0] at h1;cases h1
 | succ f ih =>
  intro listed r a w hsz hc hcl hr hE hM
  refine ⟨fun hnil=>hfin listed r a w (hrd listed r hsz hr hnil) hr hE hM,fun i hi=>?_⟩
  obtain ⟨h0,o,ho,hpe⟩:=mem_ready.1 hi
  have hil:=(Array.getElem?_eq_some_iff.1 ho).1
  have hil':i<listed.size:=by omega
  have hdi:listed.getD i false=false:=by
   simp only [Array.getD_eq_getD_getElem?,Array.getElem?_eq_getElem hil',Option.getD_some] at h0 ⊢;exact h0
  obtain ⟨R0,F0⟩:=hrun r hr
  obtain ⟨o',x,e,q,ho',hx,hev,-,-⟩:=R0.step i hil
  rw [ho] at ho';cases ho'
  have hpre:∀ j,Pth ops i j→listed.getD j false=true:=fun j hp=>hcl.ready ho hpe hp
  have hr':∀ m k,k<key→updR r (key+i) m k=r0 k:=fun m k hy=>by
   rw [updR_ne r (by omega)];exact hr k hy
  have hRm:=fun m=>(hrun _ (hr' m)).1
  have hFm:=fun m=>(hrun _ (hr' m)).2
  have hni:∀ m j,j<ops.size→j≠i→¬ Pth ops j i→RR r j=RR (updR r (key+i) m) j:=fun m=>nonint (fun k hk'=>(updR_ne r hk').symm) R0 (hRm m) F0 (hFm m)
  have hpth:∀ m j,Pth ops i j→RR r j=RR (updR r (key+i) m) j:=fun m j hp=>by
   have:=hp.lt F0.back
   exact hni m j (by omega) (by omega) (fun h=>by have:=h.lt F0.back;omega)
  obtain ⟨ht,hw⟩:=opEval_tch hev
  have hdst:=opEval_dst hev
  have hfam:∀ m,∃ e q,opEval (updR r (key+i) m) nt ops (key+i) o x (ov (uE ops (RR r)) (fun _=>true) e0 i) (ov (uM (RR r)) (fun _=>true) m0 i)=some (RR (updR r (key+i) m) i,e,q)∧(∀ p,p ∈ e→p.1=p.2)∧(∀ p,p ∈ q→p.1=p.2):=fun m=>by
   obtain ⟨o',x',e',q',ho',hx',hev',h1,h2⟩:=(hRm m).step i hil
   rw [ho] at ho';cases ho'
   rw [hx] at hx';cases hx'
   have hEs:∀ t,t ∈ o.looksAt ops→look t (ov (uE ops (RR r)) (fun _=>true) e0 i)=look t (ov (uE ops (RR (updR r (key+i) m))) (fun _=>true) e0 i):=fun t ht=>same_env F0 (hFm m) ho (hpth m) ht
   have htc:=opTch_congr (i:=x) hEs
   have t2:=(opEval_tch hev').1
   refine ⟨e',q',?_,h1,h2⟩
   rw [← hev']
   refine opEval_congr (fun cs b=>F0.sel i o cs b ho) hEs (fun k hkt=>⟨same_mem F0 (hFm m) ho (hpth m) (by rw [ht];exact hkt) (by rw [t2,← htc];exact hkt),fun _=>rfl⟩) rfl
  have hseen:∀ t,t ∈ o.looksAt ops→look t (ov (uE ops (RR r)) (fun j=>listed.getD j false) e0 ops.size)=look t (ov (uE ops (RR r)) (fun _=>true) e0 i):=fun t ht=>seen_env F0 ho hcl hdi hpre ht
  have hseenM:∀ k,k ∈ (RR r i).tch→look k (ov (uM (RR r)) (fun j=>listed.getD j false) m0 ops.size)=look k (ov (uM (RR r)) (fun _=>true) m0 i):=fun k hk=>seen_mem F0 ho hcl hdi hpre hk
  have hnk0:∀ y,look (key+i) (ov (uM (RR r)) (fun _=>true) m0 i)≠some y:=fun y hy=>by have:=ov_keys hk R0 i (by omega) _ _ hy;omega
  -- no other operation writes the key of this one
  have hother:∀ m j,j<ops.size→listed.getD j false=true→∀ p,p ∈ (RR (updR r (key+i) m) j).wr→p.1≠key+i:=fun m j hj hdj p hp e=>by
   obtain ⟨o2,x2,e2,q2,ho2,hx2,hev2,-,-⟩:=(hRm m).step j hj
   have hji:j≠i:=fun e=>by subst e;rw [hdi] at hdj;cases hdj
   rcases (opEval_tch hev2).2 p hp with h1 | ⟨h1,-⟩
   ·omega
   ·rcases (hFm m).tch j hj _ h1 with h2 | h2
    ·omega
    ·rw [e,show key+i - key=i by omega] at h2
     have:=hcl.pth h2 hdj
     rw [hdi] at this;cases this
  have hovE:∀ m,ov (uE ops (RR (updR r (key+i) m))) (fun j=>listed.getD j false) e0 ops.size=ov (uE ops (RR r)) (fun j=>listed.getD j false) e0 ops.size:=fun m=>by
   refine (ov_congr ops.size (fun j hj=>⟨rfl,fun hdj=>?_⟩)).symm
   unfold uE
   rw [hni m j hj (fun e=>by subst e;rw [hdi] at hdj;cases hdj) (fun hp=>by have:=hcl.pth hp hdj;rw [hdi] at this;cases this)]
  have hovM:∀ m,ov (uM (RR (updR r (key+i) m))) (fun j=>listed.getD j false) m0 ops.size=ov (uM (RR r)) (fun j=>listed.getD j false) m0 ops.size:=fun m=>by
   refine (ov_congr ops.size (fun j hj=>⟨rfl,fun hdj=>?_⟩)).symm
   unfold uM
   rw [hni m j hj (fun e=>by subst e;rw [hdi] at hdj;cases hdj) (fun hp=>by have:=hcl.pth hp hdj;rw [hdi] at this;cases this)]
  have hset:∀ j,(listed.setIfInBounds i true).getD j false=if j=i then true else listed.getD j false:=fun j=>by
   by_cases e:j=i
   ·subst e;simp [hil']
   ·rw [if_neg e,getD_set_ne false (fun e'=>e e'.symm)]
  have hnk:∀ y,look (key+i) (ov (uM (RR r)) (fun j=>listed.getD j false) m0 ops.size)≠some y:=fun y hy=>by
   have gen:∀ N,N≤ops.size→look (key+i) (ov (uM (RR r)) (fun j=>listed.getD j false) m0 N)=none:=fun N=>by
    induction N with
    | zero=>intro _;exact look_none (fun p hp e=>by
      have:look p.1 m0≠none:=fun hn=>by
       have:∀ l:Mem,p ∈ l→look p.1 l≠none:=fun l=>by
        induction l with
        | nil=>intro h;cases h
        | cons q l ih =>
         intro hm
         obtain ⟨qa,qx⟩:=q
         by_cases hq:qa=p.1
         ·subst hq;rw [look_cons_eq];simp
         ·rw [look_cons_ne _ _ hq]
          rcases List.mem_cons.1 hm with e | hm
          ·exact absurd (by rw [e]) hq
          ·exact ih hm
       exact this m0 hp hn
      obtain ⟨y,hy⟩:=Option.ne_none_iff_exists'.1 this
      have:=hk _ _ hy
      omega)
    | succ N ihN =>
     intro hN
     simp only [ov]
     cases hd:listed.getD N false with
     | false=>exact ihN (by omega)
     | true =>
      simp only [cond_true,look_append,ihN (by omega),Option.or_none]
      have h1:=hother (r (key+i)) N (by omega) hd
      have:updR r (key+i) (r (key+i))=r:=by funext k;unfold updR;split <;> simp_all
      rw [this] at h1
      exact look_wr h1
   rw [gen _ (Nat.le_refl _)] at hy;cases hy
  have hst:=opEval_sound (P:=P) (X:=X) (r:=r) (nt:=nt) (ops:=ops) (key:=key+i) (o:=o) (i:=x) (env:=ov (uE ops (RR r)) (fun _=>true) e0 i) (env':=ov (uE ops (RR r)) (fun j=>listed.getD j false) e0 ops.size) (mem:=ov (uM (RR r)) (fun _=>true) m0 i) (a:=a) (w:=w)
   (res:=fun m=>RR (updR r (key+i) m) i) (es:=fun m=>Classical.choose (hfam m)) (ss:=fun m=>Classical.choose (Classical.choose_spec (hfam m)))
   (fun m=>(Classical.choose_spec (Classical.choose_spec (hfam m))).1) (fun m=>(Classical.choose_spec (Classical.choose_spec (hfam m))).2.1) (fun m=>(Classical.choose_spec (Classical.choose_spec (hfam m))).2.2)
   hE (exec_congr (fun cs b=>F0.sel i o cs b ho) hseen) (wantOf_congr x.g hseen) hM.below
   (fun k hkt y hy=>hM.has k y (by rw [hseenM k (by rw [ht];exact hkt)];exact hy)) hnk0
   (wpAny P .any ops Q f (listed.setIfInBounds i true)) Q (fun m w' ha=>by
    refine ih (listed.setIfInBounds i true) (updR r (key+i) m) _ w' (by simp [hsz]) ?_ ?_ (hr' m) ?_ ?_
    ·have h2:=cnt_set (d:=fun j=>listed.getD j false) hdi ops.size hil
     rw [hc] at h2
     have h3:(fun j=>(listed.setIfInBounds i true).getD j false)=(fun j=>if j=i then true else listed.getD j false):=funext hset
     rw [h3];omega
    ·intro y oy hoy hdy e' he' hb'
     simp only [hset] at hdy ⊢
     split
     ·rfl
     ·by_cases hyi:y=i
      ·subst hyi;rw [ho] at hoy;cases hoy;exact hpe e' he' hb'
      ·rw [if_neg hyi] at hdy;exact hcl y oy hoy hdy e' he' hb'
    ·have h3:(fun j=>(listed.setIfInBounds i true).getD j false)=(fun j=>if j=i then true else listed.getD j false):=funext hset
     rw [h3]
     have h4:=hE.put (dst:=o.dst) (res:=RR (updR r (key+i) m) i) hdst
     refine ⟨h4.defers,h4.size,fun t=>?_⟩
     rw [h4.val t]
     refine envV_congr ?_
     rw [ov_put (u:=uE ops (RR (updR r (key+i) m))) (d:=fun j=>listed.getD j false) hdi hil,hovE m]
     ·have:uE ops (RR (updR r (key+i) m)) i=pushE o.dst (RR (updR r (key+i) m) i) []:=by unfold uE;rw [ho]
      rw [this,← pushE_nil]
     ·intro j hj hdj hij p hp
      obtain ⟨oj,hoj⟩:∃ o,ops[j]?=some o:=⟨ops[j],Array.getElem?_eq_getElem hj⟩
      have u1:uE ops (RR (updR r (key+i) m)) j=pushE oj.dst (RR (updR r (key+i) m) j) []:=by unfold uE;rw [hoj]
      have u2:uE ops (RR (updR r (key+i) m)) i=pushE o.dst (RR (updR r (key+i) m) i) []:=by unfold uE;rw [ho]
      rw [u1] at hp
      rw [u2]
      rcases (hFm m).pair j i o oj hij ho hoj with hp' | ⟨h5,h6⟩
      ·have:=hcl.pth hp' hdj;rw [hdi] at this;cases this
      ·refine look_pushE (fun e=>?_)
       cases hdj':oj.dst with
       | none=>rw [hdj'] at hp;cases hp
       | some d =>
        rw [hdj'] at hp
        simp only [pushE,List.mem_singleton] at hp
        subst hp
        exact (indep_spec h5).2.1 d e hdj'
    ·have h3:(fun j=>(listed.setIfInBounds i true).getD j false)=(fun j=>if j=i then true else listed.getD j false):=funext hset
     rw [h3]
     obtain ⟨e',q',hev',-,-⟩:=hfam m
     have hw':=(opEval_tch hev').2
     have hres:(RR (updR r (key+i) m) i).tch=(RR r i).tch:=by rw [(opEval_tch hev').1,ht]
     have h5:=hM.after (r':=rB (updR r (key+i) m)) (fun k hk'=>rB_ne r hk') hnk ha (fun p hp=>(hw' p hp).imp id (fun h=>by
      rw [hseenM p.1 (by rw [← hres];exact h.1)];exact h.2))
     have hlk:∀ k,look k (ov (uM (RR (updR r (key+i) m))) (fun j=>if j=i then true else listed.getD j false) m0 ops.size)=look k ((RR (updR r (key+i) m) i).wr++ov (uM (RR r)) (fun j=>listed.getD j false) m0 ops.size):=fun k=>by
      rw [ov_put (u:=uM (RR (updR r (key+i) m))) (d:=fun j=>listed.getD j false) hdi hil,hovM m]
      ·rfl
      ·intro j hj hdj hij p hp
       obtain ⟨oj,hoj⟩:∃ o,ops[j]?=some o:=⟨ops[j],Array.getElem?_eq_getElem hj⟩
       rcases (hFm m).pair j i o oj hij ho hoj with hp' | ⟨h6,h7⟩
       ·have:=hcl.pth hp' hdj;rw [hdi] at this;cases this
       ·exact look_wr (fun p' hp' e=>(indep_spec h6).2.2.2 p' hp' p hp e)
     refine ⟨h5.below,fun k y hy=>?_,fun k k' y y' hy hy' e=>?_⟩
     ·rw [hlk] at hy;exact h5.has k y hy
     ·rw [hlk] at hy hy';exact h5.inj k k' y y' hy hy' e)
  unfold wpOp
  simp only [ho]
  unfold Step at hst
  split at hst
  ·rename_i hwn;rw [if_pos hwn];exact .inl hst
  ·rename_i hwn;rw [if_neg hwn];exact hst
end
end Go.Proofs.YtlhddcingeneaaaGreatDoor
namespace Go.Proofs.YtlhddcingeneaaaGreatDoor
open Go Go.RowKit
section
variable {P:Program} {X:Cx}
def Ok1 (e:Eqs):Prop:=∀ p,p ∈ e→p.1=p.2
def Ok2 (e:Seqs):Prop:=∀ p,p ∈ e→p.1=p.2
theorem Ok1.left {a b:Eqs} (h:Ok1 (a++b)):Ok1 a:=fun p hp=>h p (List.mem_append_left _ hp)
theorem Ok1.right {a b:Eqs} (h:Ok1 (a++b)):Ok1 b:=fun p hp=>h p (List.mem_append_right _ hp)
theorem Ok2.left {a b:Seqs} (h:Ok2 (a++b)):Ok2 a:=fun p hp=>h p (List.mem_append_left _ hp)
theorem Ok2.right {a b:Seqs} (h:Ok2 (a++b)):Ok2 b:=fun p hp=>h p (List.mem_append_right _ hp)
theorem run_con {nt:Nat} {ops:Array Oper} {key:Nat} {ins:List (OpIn P X)} {e0:Env} {m0:Mem} {r r':Rn} {R R':Nat→ORes} (hsel:∀ (j:Nat) (o:Oper) cs b,ops[j]?=some o→o.op ≠ .select cs b) (hk:KeysLt m0 key) (j:Nat) (hj:j≤ops.size)
  (hr:∀ k,k<key+j→r k=r' k) (h:Run P X r nt ops key ins e0 m0 R) (h':Run P X r' nt ops key ins e0 m0 R'):∀ m,m<j→R m=R' m:=by
 intro m
 induction m using Nat.strongRecOn with
 | _ m ih =>
  intro hm
  obtain ⟨o,x,e,q,ho,hx,hev,-,-⟩:=h.step m (by omega)
  obtain ⟨o',x',e',q',ho',hx',hev',-,-⟩:=h'.step m (by omega)
  rw [ho] at ho';cases ho'
  rw [hx] at hx';cases hx'
  have hE:ov (uE ops R) (fun _=>true) e0 m=ov (uE ops R') (fun _=>true) e0 m:=ov_congr m (fun y hy=>⟨rfl,fun _=>by unfold uE;rw [ih y hy (by omega)]⟩)
  have hM:ov (uM R) (fun _=>true) m0 m=ov (uM R') (fun _=>true) m0 m:=ov_congr m (fun y hy=>⟨rfl,fun _=>by unfold uM;rw [ih y hy (by omega)]⟩)
  have heq:=opEval_congr (P:=P) (X:=X) (r:=r) (r':=r') (nt:=nt) (ops:=ops) (key:=key+m) (o:=o) (i:=x) (env:=ov (uE ops R) (fun _=>true) e0 m) (env':=ov (uE ops R') (fun _=>true) e0 m) (mem:=ov (uM R) (fun _=>true) m0 m) (mem':=ov (uM R') (fun _=>true) m0 m)
   (fun cs b=>hsel m o cs b ho) (fun t _=>by rw [hE]) (fun k hkt=>⟨by rw [hM],fun hs=>by
    obtain ⟨y,hy⟩:=Option.isSome_iff_exists.1 hs
    have:=ov_keys hk h' m (by omega) k y hy
    exact hr k (by omega)⟩) (hr _ (by omega))
  rw [hev,hev'] at heq
  simp only [Option.some.injEq,Prod.mk.injEq] at heq
  exact heq.1
def exOf:VEx→Exit
 | .n=>.normal
 | .x i=>.exit i
 | .r=>.ret
theorem vmC_ctr {lk:List (Nat × Nat)} {nt:Nat} {r:Rn}:∀ n c (s:VSt P X) e s' q z,vmC lk nt r n c s=some (e,s',q,z)→s.ctr≤s'.ctr:=by
 intro n
 induction n with
 | zero=>intro c s e s' q z h;cases h
 | succ n ih =>
  intro c s e s' q z h
  cases c <;> simp only [vmC] at h
  case skip=>simp only [Option.some.injEq,Prod.mk.injEq] at h;rw [← h.2.1];exact Nat.le_refl _
  case region id ops draw =>
   split at h
   ·cases h
   ·split at h
    ·cases h
    ·split at h
     ·cases h
     ·simp only [Option.some.injEq,Prod.mk.injEq] at h
      rw [← h.2.1];simp
  case seq a b =>
   split at h
   ·cases h
   ·rename_i s1 e1 q1 h1
    split at h
    ·cases h
    ·rename_i x s2 e2 q2 h2
     simp only [Option.some.injEq,Prod.mk.injEq] at h
     rw [← h.2.1]
     exact Nat.le_trans (ih _ _ _ _ _ _ h1) (ih _ _ _ _ _ _ h2)
   ·rename_i x s1 e1 q1 hn h1
    simp only [Option.some.injEq,Prod.mk.injEq] at h
    rw [← h.2.1];exact ih _ _ _ _ _ _ h1
  case cond c x y =>
   split at h
   ·cases h
   ·split at h
    ·cases h
    ·split at h
     ·cases h
     ·rename_i x1 s1 e1 q1 h1
      simp only [Option.some.injEq,Prod.mk.injEq] at h
      rw [← h.2.1]
      have h9:=ih _ _ _ _ _ _ h1
      exact h9
  case block id c =>
   split at h
   ·cases h
   ·rename_i i s1 e1 q1 h1
    simp only [Option.some.injEq,Prod.mk.injEq] at h
    rw [← h.2.1];exact ih _ _ _ _ _ _ h1
   ·rename_i x s1 e1 q1 hn h1
    simp only [Option.some.injEq,Prod.mk.injEq] at h
    rw [← h.2.1];exact ih _ _ _ _ _ _ h1
  case loop c =>
   split at h
   ·cases h
   ·rename_i s1 e1 q1 h1
    split at h
    ·cases h
    ·rename_i x s2 e2 q2 h2
     simp only [Option.some.injEq,Prod.mk.injEq] at h
     rw [← h.2.1]
     exact Nat.le_trans (ih _ _ _ _ _ _ h1) (ih _ _ _ _ _ _ h2)
   ·rename_i x s1 e1 q1 hn h1
    simp only [Option.some.injEq,Prod.mk.injEq] at h
    rw [← h.2.1];exact ih _ _ _ _ _ _ h1
  case exit id=>simp only [Option.some.injEq,Prod.mk.injEq] at h;rw [← h.2.1];exact Nat.le_refl _
  case ret=>simp only [Option.some.injEq,Prod.mk.injEq] at h;rw [← h.2.1];exact Nat.le_refl _
  all_goals cases h
theorem vmC_region {lk:List (Nat × Nat)} {nt:Nat} {r:Rn} {n id:Nat} {ops:Array Oper} {draw:Bool} {s:VSt P X} {e:VEx} {s':VSt P X} {q:Eqs} {z:Seqs}
  (h:vmC lk nt r (n+1) (.region id ops draw) s=some (e,s',q,z)):∃ ins ds ps qs,assign id lk 0 ops.toList s.ds s.ps=some (ins,ds,ps)∧vmUp r nt ops s.ctr ins s.env s.mem ops.size=some qs∧e = .n∧s'=⟨qs.env,qs.mem,s.ctr+ops.size,ds,ps⟩∧q=qs.es∧z=qs.ss ∧
   (Region.noSelect ops=true)∧(draw=true→regOk ops s.ctr qs.rs.reverse=true):=by
 simp only [vmC] at h
 split at h
 ·cases h
 ·rename_i ins ds ps ha
  split at h
  ·cases h
  ·rename_i qs hu
   split at h
   ·cases h
   ·rename_i hok
    simp only [Option.some.injEq,Prod.mk.injEq] at h
    obtain ⟨rfl,rfl,rfl,rfl⟩:=h
    simp only [Bool.and_eq_true,Bool.or_eq_true,Bool.not_eq_true'] at hok
    refine ⟨ins,ds,ps,qs,ha,hu,rfl,rfl,rfl,rfl,hok.1,fun hd=>?_⟩
    rcases hok.2 with h1 | h1
    ·rw [hd] at h1;cases h1
    ·exact h1
theorem vmC_same {lk:List (Nat × Nat)} {nt:Nat} {r r':Rn}:∀ n c (s:VSt P X) e s' q z e2 s2 q2 z2,KeysLt s.mem s.ctr→vmC lk nt r n c s=some (e,s',q,z)→Ok1 q→Ok2 z→vmC lk nt r' n c s=some (e2,s2,q2,z2)→Ok1 q2→Ok2 z2 →
  (∀ k,k<s'.ctr→r k=r' k)→e=e2∧s'=s2∧KeysLt s'.mem s'.ctr:=by
 intro n
 induction n with
 | zero=>intro c s e s' q z e2 s2 q2 z2 hk h;cases h
 | succ n ih =>
  intro c s e s' q z e2 s2 q2 z2 hk h hq hz h' hq2 hz2 hr
  cases c
  case skip =>
   simp only [vmC,Option.some.injEq,Prod.mk.injEq] at h h'
   obtain ⟨rfl,rfl,-,-⟩:=h
   exact ⟨h'.1,h'.2.1,hk⟩
  case region id ops draw =>
   obtain ⟨ins,ds,ps,qs,ha,hu,rfl,rfl,rfl,rfl,hsel,-⟩:=vmC_region h
   obtain ⟨ins2,ds2,ps2,qs2,ha2,hu2,rfl,rfl,rfl,rfl,-,-⟩:=vmC_region h'
   rw [ha] at ha2
   simp only [Option.some.injEq,Prod.mk.injEq] at ha2
   obtain ⟨rfl,rfl,rfl⟩:=ha2
   obtain ⟨a1,a2,a3,a4,a5⟩:=vmUp_run ops.size qs (Nat.le_refl _) hu hq hz
   obtain ⟨b1,b2,b3,b4,b5⟩:=vmUp_run ops.size qs2 (Nat.le_refl _) hu2 hq2 hz2
   have hR:=run_con (P:=P) (X:=X) (fun j o cs b ho=>Region.noSelect_spec hsel j o cs b ho) hk ops.size (Nat.le_refl _) hr ⟨a5⟩ ⟨b5⟩
   have hE:ov (uE ops (vmR' r nt ops s.ctr ins s.env s.mem)) (fun _=>true) s.env ops.size=ov (uE ops (vmR' r' nt ops s.ctr ins s.env s.mem)) (fun _=>true) s.env ops.size:=ov_congr _ (fun y hy=>⟨rfl,fun _=>by unfold uE;rw [hR y hy]⟩)
   have hM:ov (uM (vmR' r nt ops s.ctr ins s.env s.mem)) (fun _=>true) s.mem ops.size=ov (uM (vmR' r' nt ops s.ctr ins s.env s.mem)) (fun _=>true) s.mem ops.size:=ov_congr _ (fun y hy=>⟨rfl,fun _=>by unfold uM;rw [hR y hy]⟩)
   refine ⟨rfl,?_,?_⟩
   ·rw [a1,a2,b1,b2,hE,hM]
   ·rw [a2]
    exact ov_keys hk ⟨a5⟩ ops.size (Nat.le_refl _)
  case seq a b =>
   simp only [vmC] at h h'
   split at h
   ·cases h
   ·rename_i s1 e1 q1 h1
    split at h
    ·cases h
    ·rename_i x sb eb qb hb
     simp only [Option.some.injEq,Prod.mk.injEq] at h
     obtain ⟨rfl,rfl,rfl,rfl⟩:=h
     have hc:=vmC_ctr _ _ _ _ _ _ _ hb
     split at h'
     ·cases h'
     ·rename_i s1' e1' q1' h1'
      split at h'
      ·cases h'
      ·rename_i x' sb' eb' qb' hb'
       simp only [Option.some.injEq,Prod.mk.injEq] at h'
       obtain ⟨rfl,rfl,rfl,rfl⟩:=h'
       obtain ⟨-,rfl,hk1⟩:=ih _ _ _ _ _ _ _ _ _ _ hk h1 hq.right hz.right h1' hq2.right hz2.right (fun k hk'=>hr k (by omega))
       exact ih _ _ _ _ _ _ _ _ _ _ hk1 hb hq.left hz.left hb' hq2.left hz2.left hr
     ·rename_i x' s1' e1' q1' hn h1'
      simp only [Option.some.injEq,Prod.mk.injEq] at h'
      obtain ⟨rfl,rfl,rfl,rfl⟩:=h'
      obtain ⟨h3,-,-⟩:=ih _ _ _ _ _ _ _ _ _ _ hk h1 hq.right hz.right h1' hq2 hz2 (fun k hk'=>hr k (by omega))
      exact (hn h3.symm).elim
   ·rename_i x s1 e1 q1 hn h1
    simp only [Option.some.injEq,Prod.mk.injEq] at h
    obtain ⟨rfl,rfl,rfl,rfl⟩:=h
    split at h'
    ·cases h'
    ·rename_i s1' e1' q1' h1'
     split at h'
     ·cases h'
     ·rename_i x' sb' eb' qb' hb'
      simp only [Option.some.injEq,Prod.mk.injEq] at h'
      obtain ⟨rfl,rfl,rfl,rfl⟩:=h'
      obtain ⟨rfl,-,-⟩:=ih _ _ _ _ _ _ _ _ _ _ hk h1 hq hz h1' hq2.right hz2.right hr
      exact (hn rfl).elim
    ·rename_i x' s1' e1' q1' hn' h1'
     simp only [Option.some.injEq,Prod.mk.injEq] at h'
     obtain ⟨rfl,rfl,rfl,rfl⟩:=h'
     exact ih _ _ _ _ _ _ _ _ _ _ hk h1 hq hz h1' hq2 hz2 hr
  case cond c x y =>
   simp only [vmC] at h h'
   split at h
   ·cases h
   ·rename_i d ds hds
    simp only [hds] at h'
    split at h
    ·cases h
    ·rename_i hd
     simp only [hd] at h'
     split at h
     ·cases h
     ·rename_i x1 s1 e1 q1 h1
      simp only [Option.some.injEq,Prod.mk.injEq] at h
      obtain ⟨rfl,rfl,rfl,rfl⟩:=h
      split at h'
      ·cases h'
      ·rename_i x1' s1' e1' q1' h1'
       simp only [Option.some.injEq,Prod.mk.injEq] at h'
       obtain ⟨rfl,rfl,rfl,rfl⟩:=h'
       exact ih _ ⟨s.env,s.mem,s.ctr,ds,s.ps⟩ _ _ _ _ _ _ _ _ hk h1 (fun p hp=>hq p (List.mem_cons_of_mem _ hp)) hz h1' (fun p hp=>hq2 p (List.mem_cons_of_mem _ hp)) hz2 hr
  case block id c =>
   simp only [vmC] at h h'
   split at h
   ·cases h
   ·rename_i i s1 e1 q1 h1
    simp only [Option.some.injEq,Prod.mk.injEq] at h
    obtain ⟨rfl,rfl,rfl,rfl⟩:=h
    split at h'
    ·cases h'
    ·rename_i i' s1' e1' q1' h1'
     simp only [Option.some.injEq,Prod.mk.injEq] at h'
     obtain ⟨rfl,rfl,rfl,rfl⟩:=h'
     obtain ⟨h3,h4,h5⟩:=ih _ _ _ _ _ _ _ _ _ _ hk h1 hq hz h1' hq2 hz2 hr
     cases h3
     exact ⟨rfl,h4,h5⟩
    ·rename_i x' s1' e1' q1' hn' h1'
     simp only [Option.some.injEq,Prod.mk.injEq] at h'
     obtain ⟨rfl,rfl,rfl,rfl⟩:=h'
     obtain ⟨h3,h4,h5⟩:=ih _ _ _ _ _ _ _ _ _ _ hk h1 hq hz h1' hq2 hz2 hr
     exact (hn' _ h3.symm).elim
   ·rename_i x s1 e1 q1 hn h1
    simp only [Option.some.injEq,Prod.mk.injEq] at h
    obtain ⟨rfl,rfl,rfl,rfl⟩:=h
    split at h'
    ·cases h'
    ·rename_i i' s1' e1' q1' h1'
     simp only [Option.some.injEq,Prod.mk.injEq] at h'
     obtain ⟨rfl,rfl,rfl,rfl⟩:=h'
     obtain ⟨rfl,h4,h5⟩:=ih _ _ _ _ _ _ _ _ _ _ hk h1 hq hz h1' hq2 hz2 hr
     exact (hn _ rfl).elim
    ·rename_i x' s1' e1' q1' hn' h1'
     simp only [Option.some.injEq,Prod.mk.injEq] at h'
     obtain ⟨rfl,rfl,rfl,rfl⟩:=h'
     exact ih _ _ _ _ _ _ _ _ _ _ hk h1 hq hz h1' hq2 hz2 hr
  case loop c =>
   simp only [vmC] at h h'
   split at h
   ·cases h
   ·rename_i s1 e1 q1 h1
    split at h
    ·cases h
    ·rename_i x sb eb qb hb
     simp only [Option.some.injEq,Prod.mk.injEq] at h
     obtain ⟨rfl,rfl,rfl,rfl⟩:=h
     have hc:=vmC_ctr _ _ _ _ _ _ _ hb
     split at h'
     ·cases h'
     ·rename_i s1' e1' q1' h1'
      split at h'
      ·cases h'
      ·rename_i x' sb' eb' qb' hb'
       simp only [Option.some.injEq,Prod.mk.injEq] at h'
       obtain ⟨rfl,rfl,rfl,rfl⟩:=h'
       obtain ⟨-,rfl,hk1⟩:=ih _ _ _ _ _ _ _ _ _ _ hk h1 hq.right hz.right h1' hq2.right hz2.right (fun k hk'=>hr k (by omega))
       exact ih _ _ _ _ _ _ _ _ _ _ hk1 hb hq.left hz.left hb' hq2.left hz2.left hr
     ·rename_i x' s1' e1' q1' hn h1'
      simp only [Option.some.injEq,Prod.mk.injEq] at h'
      obtain ⟨rfl,rfl,rfl,rfl⟩:=h'
      obtain ⟨h3,-,-⟩:=ih _ _ _ _ _ _ _ _ _ _ hk h1 hq.right hz.right h1' hq2 hz2 (fun k hk'=>hr k (by omega))
      exact (hn h3.symm).elim
   ·rename_i x s1 e1 q1 hn h1
    simp only [Option.some.injEq,Prod.mk.injEq] at h
    obtain ⟨rfl,rfl,rfl,rfl⟩:=h
    split at h'
    ·cases h'
    ·rename_i s1' e1' q1' h1'
     split at h'
     ·cases h'
     ·rename_i x' sb' eb' qb' hb'
      simp only [Option.some.injEq,Prod.mk.injEq] at h'
      obtain ⟨rfl,rfl,rfl,rfl⟩:=h'
      obtain ⟨rfl,-,-⟩:=ih _ _ _ _ _ _ _ _ _ _ hk h1 hq hz h1' hq2.right hz2.right hr
      exact (hn rfl).elim
    ·rename_i x' s1' e1' q1' hn' h1'
     simp only [Option.some.injEq,Prod.mk.injEq] at h'
     obtain ⟨rfl,rfl,rfl,rfl⟩:=h'
     exact ih _ _ _ _ _ _ _ _ _ _ hk h1 hq hz h1' hq2 hz2 hr
  case exit id =>
   simp only [vmC,Option.some.injEq,Prod.mk.injEq] at h h'
   obtain ⟨rfl,rfl,-,-⟩:=h
   exact ⟨h'.1,h'.2.1,hk⟩
  case ret =>
   simp only [vmC,Option.some.injEq,Prod.mk.injEq] at h h'
   obtain ⟨rfl,rfl,-,-⟩:=h
   exact ⟨h'.1,h'.2.1,hk⟩
  all_goals (simp only [vmC] at h;cases h)
def Good (lk:List (Nat × Nat)) (nt:Nat) (r:Rn) (n:Nat) (c:Code) (s:VSt P X):Prop:=∃ e s' q z,vmC lk nt r n c s=some (e,s',q,z)∧Ok1 q∧Ok2 z
def Then (P:Program) (X:Cx) (lk:List (Nat × Nat)) (nt:Nat) (r0:Rn) (n:Nat) (c:Code) (s:VSt P X) (Q:Exit→Act→World→Prop):Prop :=
 ∀ r e s' q z a' w',(∀ k,k<s.ctr→r k=r0 k)→vmC lk nt r n c s=some (e,s',q,z)→Ok1 q→Ok2 z→EnvOk nt s'.env a'→MemOk X (rB r) s'.mem w'→KeysLt s'.mem s'.ctr→Q (exOf e) a' w'
def Sound (P:Program) (X:Cx) (lk:List (Nat × Nat)) (nt:Nat) (n:Nat) (c:Code):Prop :=
 ∀ (s:VSt P X) r0 a w Q,KeysLt s.mem s.ctr→(∀ r,(∀ k,k<s.ctr→r k=r0 k)→Good lk nt r n c s)→EnvOk nt s.env a→MemOk X (rB r0) s.mem w→Then P X lk nt r0 n c s Q→c.wp P Q a w
theorem MemOk.drew {r:Nat→Nat} {mem:Mem} {w:World} (h:MemOk X r mem w):MemOk X r mem { w with drawn:=w.drawn+1 } :=
 ⟨⟨h.below.os,h.below.tape,h.below.output,h.below.size,h.below.block⟩,h.has,h.inj⟩
theorem first_then {lk:List (Nat × Nat)} {nt:Nat} {n:Nat} {a b:Code} {s:VSt P X} {r0:Rn} {act:Act} {w:World} {K Q:Exit→Act→World→Prop}
  (V:Rn→Option (VEx × VSt P X × Eqs × Seqs))
  (hV:∀ r,V r=match vmC lk nt r n a s with
   | none=>none
   | some (.n,s1,e1,q1)=>match vmC lk nt r n b s1 with
    | none=>none
    | some (x,s2,e2,q2)=>some (x,s2,e2++e1,q2++q1)
   | some (x,s1,e1,q1)=>some (x,s1,e1,q1))
  (hk:KeysLt s.mem s.ctr) (hg:∀ r,(∀ k,k<s.ctr→r k=r0 k)→∃ e s' q z,V r=some (e,s',q,z)∧Ok1 q∧Ok2 z)
  (hT:∀ r e s' q z a' w',(∀ k,k<s.ctr→r k=r0 k)→V r=some (e,s',q,z)→Ok1 q→Ok2 z→EnvOk nt s'.env a'→MemOk X (rB r) s'.mem w'→KeysLt s'.mem s'.ctr→Q (exOf e) a' w')
  (ia:Sound P X lk nt n a) (hE:EnvOk nt s.env act) (hM:MemOk X (rB r0) s.mem w)
  (hN:∀ a' w' (s1:VSt P X) r1,KeysLt s1.mem s1.ctr→EnvOk nt s1.env a'→MemOk X (rB r1) s1.mem w'→(∀ r,(∀ k,k<s1.ctr→r k=r1 k)→Good lk nt r n b s1)→Then P X lk nt r1 n b s1 Q→K .normal a' w')
  (hQ:∀ e a' w',e ≠ .normal→Q e a' w'→K e a' w'):a.wp P K act w:=by
 refine ia s r0 act w K hk (fun r hr=>?_) hE hM ?_
 ·obtain ⟨e,s',q,z,hv,h1,h2⟩:=hg r hr
  rw [hV] at hv
  split at hv
  ·cases hv
  ·rename_i s1 e1 q1 ha
   split at hv
   ·cases hv
   ·simp only [Option.some.injEq,Prod.mk.injEq] at hv
    obtain ⟨rfl,rfl,rfl,rfl⟩:=hv
    exact ⟨_,_,_,_,ha,h1.right,h2.right⟩
  ·rename_i x s1 e1 q1 hn ha
   simp only [Option.some.injEq,Prod.mk.injEq] at hv
   obtain ⟨rfl,rfl,rfl,rfl⟩:=hv
   exact ⟨_,_,_,_,ha,h1,h2⟩
 ·intro r1 e1 s1 q1 z1 a' w' hr1 ha h1 h2 hE1 hM1 hk1
  have hc:=vmC_ctr _ _ _ _ _ _ _ ha
  by_cases hen:e1 = .n
  ·subst hen
   have both:∀ r,(∀ k,k<s1.ctr→r k=r1 k)→∀ e s' q z,V r=some (e,s',q,z)→Ok1 q→Ok2 z→∃ q0 z0 e2 q2,vmC lk nt r n a s=some (.n,s1,q0,z0)∧vmC lk nt r n b s1=some (e,s',e2,q2)∧Ok1 e2∧Ok2 q2∧q=e2++q0∧z=q2++z0∧Ok1 q0∧Ok2 z0:=fun r hr e s' q z hv h3 h4=>by
    rw [hV] at hv
    split at hv
    ·cases hv
    ·rename_i s1' e1' q1' ha'
     split at hv
     ·cases hv
     ·rename_i x s2 e2 q2 hb
      simp only [Option.some.injEq,Prod.mk.injEq] at hv
      obtain ⟨rfl,rfl,rfl,rfl⟩:=hv
      obtain ⟨-,rfl,-⟩:=vmC_same _ _ _ _ _ _ _ _ _ _ _ hk ha h1 h2 ha' h3.right h4.right (fun k hk'=>(hr k hk').symm)
      exact ⟨e1',q1',e2,q2,ha',hb,h3.left,h4.left,rfl,rfl,h3.right,h4.right⟩
    ·rename_i x s1' e1' q1' hn ha'
     simp only [Option.some.injEq,Prod.mk.injEq] at hv
     obtain ⟨rfl,rfl,rfl,rfl⟩:=hv
     obtain ⟨rfl,-,-⟩:=vmC_same _ _ _ _ _ _ _ _ _ _ _ hk ha h1 h2 ha' h3 h4 (fun k hk'=>(hr k hk').symm)
     exact (hn rfl).elim
   have hr01:∀ r:Rn,(∀ k,k<s1.ctr→r k=r1 k)→∀ k,k<s.ctr→r k=r0 k:=fun r hr k hk'=>by rw [hr k (by omega)];exact hr1 k hk'
   refine hN a' w' s1 r1 hk1 hE1 hM1 (fun r hr=>?_) ?_
   ·obtain ⟨e,s',q,z,hv,h3,h4⟩:=hg r (hr01 r hr)
    obtain ⟨q0,z0,e2,q2,-,hb,h5,h6,-⟩:=both r hr e s' q z hv h3 h4
    exact ⟨_,_,_,_,hb,h5,h6⟩
   ·intro r e s' q z a2 w2 hr hb h3 h4 hE2 hM2 hk2
    obtain ⟨e',s'',q',z',hv,h5,h6⟩:=hg r (hr01 r hr)
    obtain ⟨q0,z0,e2,q2,-,hb',-,-,rfl,rfl,h7,h8⟩:=both r hr e' s'' q' z' hv h5 h6
    rw [hb] at hb'
    simp only [Option.some.injEq,Prod.mk.injEq] at hb'
    obtain ⟨rfl,rfl,rfl,rfl⟩:=hb'
    exact hT r _ _ _ _ a2 w2 (hr01 r hr) hv h5 h6 hE2 hM2 hk2
  ·have hv:V r1=some (e1,s1,q1,z1):=by
    rw [hV,ha]
    split
    ·rename_i h;cases h
    ·rename_i h;simp only [Option.some.injEq,Prod.mk.injEq] at h;exact absurd h.1 hen
    ·rename_i h;simp only [Option.some.injEq,Prod.mk.injEq] at h;obtain ⟨rfl,rfl,rfl,rfl⟩:=h;rfl
   refine hQ _ _ _ ?_ (hT r1 _ _ _ _ a' w' hr1 hv h1 h2 hE1 hM1 hk1)
   cases e1
   ·exact absurd rfl hen
   ·intro h;cases h
   ·intro h;cases h
theorem vmC_sound (hm:P.follows .mixedOrders=true) (lk:List (Nat × Nat)) (nt:Nat):∀ n,(∀ c,Sound P X lk nt n c) ∧
  (∀ c (s:VSt P X) r0 a w Q,KeysLt s.mem s.ctr→(∀ r,(∀ k,k<s.ctr→r k=r0 k)→Good lk nt r n (.loop c) s)→EnvOk nt s.env a→MemOk X (rB r0) s.mem w→Then P X lk nt r0 n (.loop c) s Q→Code.rounds P c Q n a w):=by
 intro n
 induction n with
 | zero =>
  refine ⟨fun c s r0 a w Q hk hg=>?_,fun c s r0 a w Q hk hg=>?_⟩
  ·obtain ⟨e,s',q,z,h,-⟩:=hg r0 (fun _ _=>rfl);cases h
  ·obtain ⟨e,s',q,z,h,-⟩:=hg r0 (fun _ _=>rfl);cases h
 | succ n ih =>
  obtain ⟨ih,ihl⟩:=ih
  have hloop:∀ c (s:VSt P X) r0 a w Q,KeysLt s.mem s.ctr→(∀ r,(∀ k,k<s.ctr→r k=r0 k)→Good lk nt r (n+1) (.loop c) s)→EnvOk nt s.env a→MemOk X (rB r0) s.mem w→Then P X lk nt r0 (n+1) (.loop c) s Q→Code.rounds P c Q (n+1) a w:=fun c s r0 a w Q hk hg hE hM hT=>by
   rw [rounds_succ]
   exact first_then (a:=c) (b:=.loop c) (n:=n) (fun r=>vmC lk nt r (n+1) (.loop c) s) (fun r=>rfl) hk hg hT (ih c) hE hM
    (fun a' w' s1 r1 h1 h2 h3 h4 h5=>ihl c s1 r1 a' w' Q h1 h4 h2 h3 h5)
    (fun e a' w' hne hq=>by cases e <;> first | exact absurd rfl hne | exact hq)
  refine ⟨fun c=>?_,hloop⟩
  intro s r0 a w Q hk hg hE hM hT
  cases c
  case skip =>
   refine wp_skip ?_
   exact hT r0 .n s [] [] a w (fun _ _=>rfl) rfl (fun p hp=>by cases hp) (fun p hp=>by cases hp) hE hM hk
  case exit id =>
   refine wp_exit ?_
   exact hT r0 (.x id) s [] [] a w (fun _ _=>rfl) rfl (fun p hp=>by cases hp) (fun p hp=>by cases hp) hE hM hk
  case ret =>
   refine wp_ret ?_
   exact hT r0 .r s [] [] a w (fun _ _=>rfl) rfl (fun p hp=>by cases hp) (fun p hp=>by cases hp) hE hM hk
  case seq x y =>
   refine wp_seq ?_
   exact first_then (a:=x) (b:=y) (n:=n) (fun r=>vmC lk nt r (n+1) (.seq x y) s) (fun r=>rfl) hk hg hT (ih x) hE hM
    (fun a' w' s1 r1 h1 h2 h3 h4 h5=>ih y s1 r1 a' w' Q h1 h4 h2 h3 h5)
    (fun e a' w' hne hq=>by cases e <;> first | exact absurd rfl hne | exact hq)
  case loop c=>exact wp_loop_rounds (n+1) (hloop c s r0 a w Q hk hg hE hM hT)
  case block id c =>
   refine wp_block ?_
   refine ih c s r0 a w _ hk (fun r hr=>?_) hE hM ?_
   ·obtain ⟨e,s',q,z,hv,h1,h2⟩:=hg r hr
    simp only [vmC] at hv
    split at hv
    ·cases hv
    ·rename_i i s1 e1 q1 ha
     simp only [Option.some.injEq,Prod.mk.injEq] at hv
     obtain ⟨rfl,rfl,rfl,rfl⟩:=hv
     exact ⟨_,_,_,_,ha,h1,h2⟩
    ·rename_i x s1 e1 q1 hn ha
     simp only [Option.some.injEq,Prod.mk.injEq] at hv
     obtain ⟨rfl,rfl,rfl,rfl⟩:=hv
     exact ⟨_,_,_,_,ha,h1,h2⟩
   ·intro r e s' q z a' w' hr ha h1 h2 hE1 hM1 hk1
    have hb:vmC lk nt r (n+1) (.block id c) s=some (match e with | .x i=>bif Nat.beq i id then .n else .x i | e=>e,s',q,z):=by
     simp only [vmC,ha]
     cases e <;> rfl
    have:=hT r _ _ _ _ a' w' hr hb h1 h2 hE1 hM1 hk1
    cases e with
    | n=>exact this
    | r=>exact this
    | x i =>
     simp only [exOf,Exit.inBlock]
     simp only at this
     by_cases hi:i=id
     ·subst hi
      simp only [Nat.beq_refl,cond_true] at this
      rw [if_pos rfl];exact this
     ·have hb:Nat.beq i id=false:=by
       cases h:Nat.beq i id with
       | false=>rfl
       | true=>exact absurd (Nat.eq_of_beq_eq_true h) hi
      rw [hb] at this
      rw [if_neg hi];exact this
  case cond c x y =>
   obtain ⟨e,s',q,z,hv,h1,h2⟩:=hg r0 (fun _ _=>rfl)
   simp only [vmC] at hv
   split at hv
   ·cases hv
   ·rename_i d ds hds
    split at hv
    ·cases hv
    ·rename_i hd
     split at hv
     ·cases hv
     ·rename_i x1 s1 e1 q1 ha
      simp only [Option.some.injEq,Prod.mk.injEq] at hv
      obtain ⟨rfl,rfl,rfl,rfl⟩:=hv
      have hc:=h1 (rho s.env c,d.val) List.mem_cons_self
      simp only at hc
      have hev:a.eval c = .bool d.go:=by
       rw [eval_rho hE,hc]
       cases d with
       | t=>rfl
       | f=>rfl
       | u=>simp [Dec.real] at hd
       | p b dd h=>subst h;rfl
      have hrest:(if d.go then x else y).wp P Q a w:=by
       have e1:(if d.go=true then x else y)=(bif d.go then x else y):=by cases d.go <;> rfl
       rw [e1]
       refine ih _ ⟨s.env,s.mem,s.ctr,ds,s.ps⟩ r0 a w Q hk (fun r hr=>?_) hE hM ?_
       ·obtain ⟨e',s'',q',z',hv',h1',h2'⟩:=hg r hr
        simp only [vmC,hds,hd] at hv'
        split at hv'
        ·cases hv'
        ·rename_i x1' s1' e1' q1' ha'
         simp only [Option.some.injEq,Prod.mk.injEq] at hv'
         obtain ⟨rfl,rfl,rfl,rfl⟩:=hv'
         exact ⟨_,_,_,_,ha',fun p hp=>h1' p (List.mem_cons_of_mem _ hp),h2'⟩
       ·intro r e' s'' q' z' a' w' hr ha' h3 h4 hE1 hM1 hk1
        refine hT r e' s'' ((rho s.env c,d.val) :: q') z' a' w' hr ?_ (fun p hp=>?_) h4 hE1 hM1 hk1
        ·simp only [vmC,hds,hd,ha']
        ·rcases List.mem_cons.1 hp with rfl | hp
         ·exact hc
         ·exact h3 p hp
      exact wp_cond hev hrest
  case region id ops draw =>
   obtain ⟨e,s',q,z,hv,h1,h2⟩:=hg r0 (fun _ _=>rfl)
   obtain ⟨ins,ds,ps,qs,ha,hu,-,-,-,-,hsel,-⟩:=vmC_region hv
   have hall:∀ r,(∀ k,k<s.ctr→r k=r0 k)→∃ qs:RS,vmC lk nt r (n+1) (.region id ops draw) s=some (.n,⟨qs.env,qs.mem,s.ctr+ops.size,ds,ps⟩,qs.es,qs.ss)∧Ok1 qs.es∧Ok2 qs.ss∧vmUp r nt ops s.ctr ins s.env s.mem ops.size=some qs∧(draw=true→regOk ops s.ctr qs.rs.reverse=true):=fun r hr=>by
    obtain ⟨e',s'',q',z',hv',h1',h2'⟩:=hg r hr
    obtain ⟨ins',ds',ps',qs',ha',hu',rfl,rfl,rfl,rfl,-,hro⟩:=vmC_region hv'
    rw [ha] at ha'
    simp only [Option.some.injEq,Prod.mk.injEq] at ha'
    obtain ⟨rfl,rfl,rfl⟩:=ha'
    exact ⟨qs',hv',h1',h2',hu',hro⟩
   have hrun:∀ r,(∀ k,k<s.ctr→r k=r0 k)→Run P X r nt ops s.ctr ins s.env s.mem (vmR' r nt ops s.ctr ins s.env s.mem)∧(draw=true→RegFacts ops s.ctr (vmR' r nt ops s.ctr ins s.env s.mem)):=fun r hr=>by
    obtain ⟨qs',hv',h1',h2',hu',hro⟩:=hall r hr
    obtain ⟨a1,a2,a3,a4,a5⟩:=vmUp_run ops.size qs' (Nat.le_refl _) hu' h1' h2'
    exact ⟨⟨a5⟩,fun hd=>regOk_facts (hro hd) a4⟩
   have hQ:∀ r a w,(∀ k,k<s.ctr→r k=r0 k)→EnvOk nt (ov (uE ops (vmR' r nt ops s.ctr ins s.env s.mem)) (fun _=>true) s.env ops.size) a→MemOk X (rB r) (ov (uM (vmR' r nt ops s.ctr ins s.env s.mem)) (fun _=>true) s.mem ops.size) w→Q .normal a w:=fun r a w hr hE1 hM1=>by
    obtain ⟨qs',hv',h1',h2',hu',hro⟩:=hall r hr
    obtain ⟨a1,a2,a3,a4,a5⟩:=vmUp_run ops.size qs' (Nat.le_refl _) hu' h1' h2'
    refine hT r .n _ _ _ a w hr hv' h1' h2' (by rw [a1];exact hE1) (by rw [a2];exact hM1) ?_
    rw [a2];exact ov_keys hk ⟨a5⟩ ops.size (Nat.le_refl _)
   cases draw with
   | false =>
    refine wp_region ?_
    rw [List.range_eq_range']
    exact seq_ops hk (fun r=>vmR' r nt ops s.ctr ins s.env s.mem) (fun r hr=>(hrun r hr).1) (fun r r' j hj hr h h'=>run_con (fun j o cs b ho=>Region.noSelect_spec hsel j o cs b ho) hk j hj hr h h') hQ ops.size 0 r0 a w (by omega) (fun _ _=>rfl) hE hM
   | true =>
    refine wp_region_any hm ?_
    refine any_ops hk (fun r=>vmR' r nt ops s.ctr ins s.env s.mem) (fun r hr=>⟨(hrun r hr).1,(hrun r hr).2 rfl⟩) hQ ops.size (Array.replicate ops.size false) r0 a _ (by simp) ?_ ?_ (fun _ _=>rfl) ?_ ?_
    ·have h:(fun j=>(Array.replicate ops.size false).getD j false)=fun _=>false:=funext (fun j=>getD_replicate_false' _ _)
     rw [h]
     have:∀ N,cnt (fun _=>false) N=N:=fun N=>by
      induction N with
      | zero=>rfl
      | succ N ihN=>simp only [cnt,ihN,cond_false];omega
     exact this _
    ·intro x o ho hd
     simp only [getD_replicate_false'] at hd
     cases hd
    ·rw [ov_no ops.size (fun j _=>getD_replicate_false' _ _)];exact hE
    ·rw [ov_no ops.size (fun j _=>getD_replicate_false' _ _)];exact hM.drew
  all_goals (obtain ⟨e,s',q,z,hv,h1,h2⟩:=hg r0 (fun _ _=>rfl);simp only [vmC] at hv;cases hv)
end
end Go.Proofs.YtlhddcingeneaaaGreatDoor
namespace Go.Proofs.YtlhddcingeneaaaGreatDoor
open Go Go.RowKit
theorem vmS_pure {α:Type} (P:Program) (fr b ty:Nat):∀ (t:Sem α) (cs:Array Value) x cs' l,vmS P fr t cs=some (x,cs',false,none,l)→∀ w:World,
  (l ≠ []→Hc w b ty cs)→(∀ y,y ∈ l→y=b)→t.run P w = .ok x w:=by
 intro t
 induction t with
 | pure a =>
  intro cs x cs' l h w hb hl
  simp only [vmS,Option.some.injEq,Prod.mk.injEq] at h
  obtain ⟨rfl,-⟩:=h
  rfl
 | load m a k ih =>
  intro cs x cs' l h w hb hl
  simp only [vmS] at h
  split at h
  ·cases h
  ·rename_i hs
   split at h
   ·cases h
   ·rename_i v hv
    split at h
    ·cases h
    ·rename_i x1 cs1 wr1 n1 l1 h1
     simp only [Option.some.injEq,Prod.mk.injEq] at h
     obtain ⟨rfl,rfl,rfl,rfl,rfl⟩:=h
     have hab:=hl a.block (List.mem_cons_self)
     have hB:=hb (by simp)
     have hc:w.cell? a=some v:=by
      obtain ⟨ab,ao,asp⟩:=a
      simp only at hs hab hv
      subst hs hab
      unfold Hc at hB
      simp only [World.cell?,hB,Option.isSome_none]
      exact hv
     simp only [Sem.run,hc]
     exact ih v cs _ _ _ h1 w (fun _=>hB) (fun y hy=>hl y (List.mem_cons_of_mem _ hy))
 | store m a v k ih =>
  intro cs x cs' l h w hb hl
  simp only [vmS] at h
  split at h
  ·cases h
  ·cases h
  ·split at h
   ·cases h
   ·split at h
    ·cases h
    ·split at h
     ·cases h
     ·simp at h
 | new o k ih =>
  intro cs x cs' l h w hb hl
  simp only [vmS] at h
  split at h
  ·split at h
   ·split at h
    ·simp at h
    ·cases h
   ·cases h
  ·cases h
 | program k ih =>
  intro cs x cs' l h w hb hl
  simp only [vmS] at h
  simp only [Sem.run]
  exact ih P cs _ _ _ h w hb hl
 | mark m k ih =>
  intro cs x cs' l h w hb hl
  simp only [vmS] at h
  simp only [Sem.run]
  exact ih cs _ _ _ h w hb hl
 | _=>intros;simp_all [vmS]
section
variable {P:Program} {X:Cx}
theorem vmRes_sound {r:Nat→Nat} {nt:Nat} {env:Env} {mem:Mem} {a:Act} {w:World} (hE:EnvOk nt env a) (hM:MemOk X r mem w) (g:ResultVar→Sem Value) (g1:∀ t,g (.tmp t)=pure (a.tmps.getD t undef)) (g2:∀ b t,g (.cell b t)=do loadVar t (← asAddr (a.tmps.getD b undef))) :
  ∀ (l:List ResultVar) vs e,vmRes P r env mem l=some (vs,e)→Ok1 e→(l.mapM g).run P w = .ok vs w
 | [],vs,e,h,_=>by
  simp only [vmRes,Option.some.injEq,Prod.mk.injEq] at h
  obtain ⟨rfl,-⟩:=h
  rfl
 | .tmp t :: l,vs,e,h,he=>by
  simp only [vmRes] at h
  split at h
  ·cases h
  ·rename_i vs1 e1 h1
   simp only [Option.some.injEq,Prod.mk.injEq] at h
   obtain ⟨rfl,rfl⟩:=h
   have ih:=vmRes_sound hE hM g g1 g2 l _ _ h1 he
   rw [List.mapM_cons,g1]
   simp only [Sem.run_bind,Sem.run_pure,Result.andThen_ok,ih,hE.val]
 | .cell b t :: l,vs,e,h,he=>by
  simp only [vmRes] at h
  split at h
  ·cases h
  ·rename_i k hk
   split at h
   ·cases h
   ·rename_i ty cs hl
    split at h
    ·rename_i v cs' bl hv
     split at h
     ·cases h
     ·rename_i vs1 e1 h1
      simp only [Option.some.injEq,Prod.mk.injEq] at h
      obtain ⟨rfl,rfl⟩:=h
      have ih:=vmRes_sound hE hM g g1 g2 l _ _ h1 he.right
      have hp:=vmS_pure P 0 (r k) ty _ _ _ _ _ hv w (fun _=>(hM.has k _ hl).1) (fun y hy=>by
       have:=he.left (nv y,nv (r k)) (List.mem_map.2 ⟨y,hy,rfl⟩)
       simpa [nv] using this)
      rw [List.mapM_cons,g2,hE.val,Sem.run_bind,hp]
      simp only [Sem.run_bind,Sem.run_pure,Result.andThen_ok,ih]
    ·cases h
def outEqs (mem:Mem):Mem→Option Eqs
 | []=>some []
 | (k,(t,cs)) :: l=>match look k mem with
  | none=>none
  | some (t',cs')=>match outEqs mem l with
   | none=>none
   | some e=>some ((nv t',nv t) :: (.tuple cs',.tuple cs) :: e)
theorem outEqs_sound {r:Nat→Nat} {mem:Mem} {w:World} (hM:MemOk X r mem w):∀ (l:Mem) e,outEqs mem l=some e→Ok1 e→∀ p,p ∈ l→Hc w (r p.1) p.2.1 p.2.2∧X.Own (r p.1)
 | [],_,_,_,p,hp=>by cases hp
 | (k,(t,cs)) :: l,e,h,he,p,hp=>by
  simp only [outEqs] at h
  split at h
  ·cases h
  ·rename_i t' cs' hl
   split at h
   ·cases h
   ·rename_i e1 h1
    simp only [Option.some.injEq] at h
    subst h
    have a1:=he (nv t',nv t) (by simp)
    have a2:=he (.tuple cs',.tuple cs) (by simp)
    simp only [nv,Value.map.injEq,Option.some.injEq] at a1
    simp only [Value.tuple.injEq] at a2
    subst a1 a2
    rcases List.mem_cons.1 hp with rfl | hp
    ·exact hM.has k _ hl
    ·exact outEqs_sound hM l e1 h1 (fun p hp=>he p (List.mem_cons_of_mem _ (List.mem_cons_of_mem _ hp))) p hp
def vmFR (lk:List (Nat × Nat)) (fn:Func) (c:Code) (E0:Env) (M0:Mem) (c0:Nat) (r:Rn) (ds:List Dec) (ps:List (Item P X)) (v:Value) (out:Mem):Option (Eqs × Seqs) :=
 match vmC lk fn.ntmps r 100000 c ⟨E0,M0,c0,ds,ps⟩ with
 | some (x,s,e,q)=>match x with
  | .x _=>none
  | _=>match vmRes P (rB r) s.env s.mem fn.results.toList with
   | none=>none
   | some (vs,e2)=>match outEqs s.mem out with
    | none=>none
    | some e3=>some ((retV vs,v) :: (e3++(e2++e)),q)
 | none=>none
def vmF' (lk:List (Nat × Nat)) (fn:Func) (c:Code) (E0:Env) (M0:Mem) (c0:Nat) (r:Rn) (ds:List Dec) (ps:List (Item P X)) (v:(Nat→Nat)→Value) (out:(Nat→Nat)→Mem):Option (Eqs × Seqs) :=
 vmFR lk fn c E0 M0 c0 r ds ps (v (rB r)) (out (rB r))
theorem vmF_ok {x:Option (Eqs × Seqs)} (h:vmL x=vmR x) (h2:vmSL x=vmSR x):∃ e q,x=some (e,q)∧Ok1 e∧Ok2 q:=by
 cases x with
 | none=>simp [vmL,vmR] at h
 | some y =>
  obtain ⟨e,q⟩:=y
  have gen:∀ {α:Type} (l:List (α × α)),l.map (·.1)=l.map (·.2)→∀ p,p ∈ l→p.1=p.2:=fun l=>by
   induction l with
   | nil=>intro _ p hp;cases hp
   | cons a l ih =>
    intro h p hp
    simp only [List.map_cons,List.cons.injEq] at h
    rcases List.mem_cons.1 hp with rfl | hp
    ·exact h.1
    ·exact ih h.2 p hp
  exact ⟨e,q,rfl,gen e h,gen q h2⟩
theorem vm_genA {f:FuncId} {fn:Func} {c:Code} (hm:P.follows .mixedOrders=true) (hf:P.funcs[f]?=some fn) (hb:fn.body=some c) (lk:List (Nat × Nat)) (E0:Env) (M0:Mem) (c0:Nat) (r0:Rn) (args:Array Value)
  (henv:∀ t,(args++Array.replicate (fn.ntmps - args.size) undef).getD t undef=envV E0 t) (hsz:args.size≤fn.ntmps) (hk:KeysLt M0 c0) (hM:MemOk X (rB r0) M0 X.w0) (ds:List Dec) (ps:List (Item P X)) (v:Rn→Value) (out:Rn→Mem)
  (h:∀ r,(∀ k,k<c0→r k=r0 k)→vmL (vmFR lk fn c E0 M0 c0 r ds ps (v r) (out r))=vmR (vmFR lk fn c E0 M0 c0 r ds ps (v r) (out r)))
  (h2:∀ r,(∀ k,k<c0→r k=r0 k)→vmSL (vmFR lk fn c E0 M0 c0 r ds ps (v r) (out r))=vmSR (vmFR lk fn c E0 M0 c0 r ds ps (v r) (out r))) :
  Calls P f args X.w0 (fun e w'=>∃ r:Rn,(∀ k,k<c0→r k=r0 k)∧e = .returned (v r)∧Chg X.L X.w0 w'∧∀ p,p ∈ out r→Hc w' (r p.1).1 p.2.1 p.2.2∧X.Own (r p.1).1):=by
 refine calls_of_wp hf hb ?_
 have hall:∀ r,(∀ k,k<c0→r k=r0 k)→∃ x s e q vs e2 e3,vmC lk fn.ntmps r 100000 c (⟨E0,M0,c0,ds,ps⟩:VSt P X)=some (x,s,e,q)∧(∀ i,x ≠ .x i)∧vmRes P (rB r) s.env s.mem fn.results.toList=some (vs,e2)∧outEqs s.mem (out r)=some e3∧retV vs=v r∧Ok1 e∧Ok2 q∧Ok1 e2∧Ok1 e3:=fun r hr=>by
  obtain ⟨e,q,hx,ho1,ho2⟩:=vmF_ok (h r hr) (h2 r hr)
  unfold vmFR at hx
  split at hx
  ·rename_i x s e' q' hv
   split at hx
   ·cases hx
   ·rename_i hn
    split at hx
    ·cases hx
    ·rename_i vs e2 hr2
     split at hx
     ·cases hx
     ·rename_i e3 hr3
      simp only [Option.some.injEq,Prod.mk.injEq] at hx
      obtain ⟨rfl,rfl⟩:=hx
      have ho3:Ok1 (e3++(e2++e')):=fun p hp=>ho1 p (List.mem_cons_of_mem _ hp)
      exact ⟨x,s,e',q',vs,e2,e3,hv,fun i hi=>hn i hi,hr2,hr3,ho1 (retV vs,v r) List.mem_cons_self,ho3.right.right,ho2,ho3.right.left,ho3.left⟩
  ·cases hx
 refine (vmC_sound hm lk fn.ntmps 100000).1 c ⟨E0,M0,c0,ds,ps⟩ r0 _ X.w0 _ hk (fun r hr=>?_) ⟨rfl,by simp;omega,henv⟩ hM ?_
 ·obtain ⟨x,s,e,q,vs,e2,e3,hv,-,-,-,-,h1,h3,-⟩:=hall r hr
  exact ⟨x,s,e,q,hv,h1,h3⟩
 ·intro r e s' q z a' w' hr hv h1 h3 hE hMM hkk
  obtain ⟨x,s,e4,q4,vs,e2,e3,hv',hnx,hres,hout,hret,-,-,ho2,ho3⟩:=hall r hr
  rw [hv] at hv'
  simp only [Option.some.injEq,Prod.mk.injEq] at hv'
  obtain ⟨rfl,rfl,rfl,rfl⟩:=hv'
  obtain ⟨g,g1,g2,g3⟩:∃ g:ResultVar→Sem Value,(∀ t,g (.tmp t)=pure (a'.tmps.getD t undef))∧(∀ b t,g (.cell b t)=do loadVar t (← asAddr (a'.tmps.getD b undef))) ∧
    results fn a'.tmps=(do let vs ← fn.results.mapM g;pure (if h:vs.size=1 then vs[0] else .tuple vs)) :=
   ⟨fun | .tmp t=>pure (a'.tmps.getD t undef) | .cell b t=>do loadVar t (← asAddr (a'.tmps.getD b undef)),fun _=>rfl,fun _ _=>rfl,rfl⟩
  have hR:=vmRes_sound (P:=P) hE hMM g g1 g2 fn.results.toList vs e2 hres ho2
  have hR2:(results fn a'.tmps).run P w' = .ok (v r) w':=by
   rw [g3,Array.mapM_eq_mapM_toList]
   simp only [Sem.run_bind,Sem.run_map]
   rw [hR]
   simp only [Result.andThen_ok,Sem.run_pure]
   rw [← hret]
   congr 1
   match vs with
   | []=>rfl
   | [x]=>rfl
   | x :: y :: l=>simp [retV]
  have hpost:∃ r:Rn,(∀ k,k<c0→r k=r0 k)∧(Ending.returned (v r) = .returned (v r))∧Chg X.L X.w0 w'∧∀ p,p ∈ out r→Hc w' (r p.1).1 p.2.1 p.2.2∧X.Own (r p.1).1:=⟨r,hr,rfl,hMM.below,outEqs_sound hMM (out r) e3 hout ho3⟩
  have hfin:bodyPost P fn (fun e w'=>∃ r:Rn,(∀ k,k<c0→r k=r0 k)∧e = .returned (v r)∧Chg X.L X.w0 w'∧∀ p,p ∈ out r→Hc w' (r p.1).1 p.2.1 p.2.2∧X.Own (r p.1).1) .ret a' w' :=
   ⟨hE.defers,v r,hR2,r,hr,rfl,hMM.below,outEqs_sound hMM (out r) e3 hout ho3⟩
  cases e with
  | n=>exact hfin
  | r=>exact hfin
  | x i=>exact absurd rfl (hnx i)
theorem vm_gen {f:FuncId} {fn:Func} {c:Code} (hm:P.follows .mixedOrders=true) (hf:P.funcs[f]?=some fn) (hb:fn.body=some c) (lk:List (Nat × Nat)) (E0:Env) (M0:Mem) (c0:Nat) (r0:Nat→Nat) (args:Array Value)
  (henv:∀ t,(args++Array.replicate (fn.ntmps - args.size) undef).getD t undef=envV E0 t) (hsz:args.size≤fn.ntmps) (hk:KeysLt M0 c0) (hM:MemOk X r0 M0 X.w0) (ds:List Dec) (ps:List (Item P X)) (v:(Nat→Nat)→Value) (out:(Nat→Nat)→Mem)
  (h:∀ r,(∀ k,k<c0→rB r k=r0 k)→vmL (vmF' lk fn c E0 M0 c0 r ds ps v out)=vmR (vmF' lk fn c E0 M0 c0 r ds ps v out))
  (h2:∀ r,(∀ k,k<c0→rB r k=r0 k)→vmSL (vmF' lk fn c E0 M0 c0 r ds ps v out)=vmSR (vmF' lk fn c E0 M0 c0 r ds ps v out)) :
  Calls P f args X.w0 (fun e w'=>∃ r:Nat→Nat,(∀ k,k<c0→r k=r0 k)∧e = .returned (v r)∧Chg X.L X.w0 w'∧∀ p,p ∈ out r→Hc w' (r p.1) p.2.1 p.2.2∧X.Own (r p.1)):=by
 have q:∀ r:Rn,(∀ k,k<c0→r k=(r0 k,0))→∀ k,k<c0→rB r k=r0 k:=fun r hr k hk=>by unfold rB;rw [hr k hk]
 refine (vm_genA hm hf hb lk E0 M0 c0 (fun k=>(r0 k,0)) args henv hsz hk hM ds ps (fun r=>v (rB r)) (fun r=>out (rB r)) (fun r hr=>h r (q r hr)) (fun r hr=>h2 r (q r hr))).mono ?_
 rintro e w' ⟨r,hr,h3,h4,h5⟩
 exact ⟨rB r,q r hr,h3,h4,h5⟩
end
def RetV (v:Value) (w:World) (e:Ending) (w':World):Prop:=e = .returned v∧Below w.heap.size w w'
theorem env0_look:∀ (l:List Value) (j t:Nat),envV (env0 j l) t=if t<j then undef else l.getD (t - j) undef
 | [],j,t=>by simp [env0,envV,look]
 | v :: l,j,t=>by
  unfold envV
  by_cases h:j=t
  ·subst h
   simp only [env0,look_cons_eq]
   simp
  ·simp only [env0]
   rw [look_cons_ne _ _ h]
   have:=env0_look l (j+1) t
   unfold envV at this
   rw [this]
   by_cases h2:t<j
   ·rw [if_pos (by omega),if_pos h2]
   ·rw [if_neg (by omega),if_neg h2]
    obtain ⟨m,hm⟩:∃ m,t - j=m+1:=⟨t - j - 1,by omega⟩
    rw [hm,show t - (j+1)=m by omega]
    simp
theorem env0_start (l:List Value) (n t:Nat):(l.toArray++Array.replicate n undef).getD t undef=envV (env0 0 l) t:=by
 rw [env0_look,if_neg (by omega)]
 simp only [Nat.sub_zero,Array.getD_eq_getD_getElem?]
 by_cases h:t<l.length
 ·rw [Array.getElem?_append_left (by simpa using h)];simp
 ·rw [Array.getElem?_append_right (by simpa using h)]
  rw [List.getD_eq_getElem?_getD,List.getElem?_eq_none (by omega)]
  by_cases h2:t - l.length<n <;> simp [h2]
def vmP {P:Program} {w:World} (lk:List (Nat × Nat)) (fn:Func) (c:Code) (args:List Value) (r:Rn) (ds:List Dec) (ps:List (Item P ⟨w,[]⟩)) (v:Value):Option (Eqs × Seqs) :=
 vmF' lk fn c (env0 0 args) [] 0 r ds ps (fun _=>v) (fun _=>[])
theorem vm_pure {P:Program} {f:FuncId} {fn:Func} {c:Code} {w:World} {v:Value} (hm:P.follows .mixedOrders=true) (hf:P.funcs[f]?=some fn) (hb:fn.body=some c) (args:List Value) (hsz:args.length≤fn.ntmps)
  (lk:List (Nat × Nat)) (ds:List Dec) (ps:List (Item P ⟨w,[]⟩))
  (h:∀ r,vmL (vmP lk fn c args r ds ps v)=vmR (vmP lk fn c args r ds ps v):=by intro r;kernel_rfl) (h2:∀ r,vmSL (vmP lk fn c args r ds ps v)=vmSR (vmP lk fn c args r ds ps v):=by intro r;kernel_rfl) :
  Calls P f args.toArray w (RetV v w):=by
 have:=vm_gen (X:=⟨w,[]⟩) hm hf hb lk (env0 0 args) [] 0 (fun _=>0) args.toArray (env0_start args _) (by simpa using hsz) (fun k x h=>by cases h) ⟨Chg.refl _ _,fun k x h=>(by cases h),fun k k' x x' h=>by cases h⟩ ds ps (fun _=>v) (fun _=>[]) (fun r _=>h r) (fun r _=>h2 r)
 refine this.mono ?_
 rintro e w' ⟨r,-,he,hc,-⟩
 exact ⟨he,⟨hc.os,hc.tape,hc.output,hc.size,fun k hk=>hc.block k hk (by simp)⟩⟩
section
variable {P:Program} {X:Cx} {f:FuncId} {args:Array Value} {v:Value}
def cV (h:∀ w,Calls P f args w (RetV v w)):Item P X :=
 .call ⟨f,none,fun _=>args,fun _=>(0,#[]),none,fun _=>none,fun _=>0,fun _ _ _=>v,fun b w _ _=>(h w).mono (fun e w' h=>⟨0,0,h.1,fun _ _ h=>(by cases h),fun _ h=>(by cases h),Chg.of_below h.2 _⟩)⟩
def cW (h:∀ w,Chg X.L X.w0 w→Calls P f args w (RetV v w)):Item P X :=
 .call ⟨f,none,fun _=>args,fun _=>(0,#[]),none,fun _=>none,fun _=>0,fun _ _ _=>v,fun b w hc _=>(h w hc).mono (fun e w' h=>⟨0,0,h.1,fun _ _ h=>(by cases h),fun _ h=>(by cases h),Chg.of_below h.2 _⟩)⟩
def cM (key:Nat) (t:TypeId) (cs:Array Value) {args:Nat→Array Value} (h:∀ b w,Chg X.L X.w0 w→Hc w b t cs→Calls P f (args b) w (RetV v w)):Item P X :=
 .call ⟨f,some key,args,fun _=>(t,cs),none,fun _=>none,fun _=>0,fun _ _ _=>v,fun b w hc hk=>(h b w hc (hk rfl).2).mono (fun e w' h=>⟨0,0,h.1,fun _ _ h=>(by cases h),fun _ h=>(by cases h),Chg.of_below h.2 _⟩)⟩
def cU (key:Nat) (t:TypeId) (cs cs':Array Value) {args:Nat→Array Value} (h:∀ b w,Chg X.L X.w0 w→Hc w b t cs→Calls P f (args b) w (fun e w'=>e = .returned v∧Hc w' b t cs'∧Chg [b] w w')):Item P X :=
 .call ⟨f,some key,args,fun _=>(t,cs),some (fun _=>cs'),fun _=>none,fun _=>0,fun _ _ _=>v,fun b w hc hk=>(h b w hc (hk rfl).2).mono (fun e w' h=>⟨0,0,h.1,fun _ _ h=>(by cases h),fun g hg=>(by cases hg;exact h.2.1),h.2.2⟩)⟩
def cN (t:TypeId) (cs:Array Value) {v:Nat→Value} (h:∀ w,Chg X.L X.w0 w→Calls P f args w (fun e w'=>∃ n,w.heap.size≤n∧e = .returned (v n)∧Hc w' n t cs∧Below w.heap.size w w')):Item P X :=
 .call ⟨f,none,fun _=>args,fun _=>(0,#[]),none,fun _=>some (t,cs),fun k=>k+1,fun _ n _=>v n,fun b w hc _=>(h w hc).mono (fun e w' ⟨n,h1,h2,h3,h4⟩=>⟨n,0,h2,fun t' c' h=>(by cases h;exact ⟨h1,h3⟩),fun _ h=>(by cases h),Chg.of_below h4 _⟩)⟩
def lV (x:Sem Value) (v:Value) (h:∀ w,Chg X.L X.w0 w→x.run P w = .ok v w):Item P X :=
 .look ⟨none,fun _=>(0,#[]),fun _=>(do pure (.value (← x))),none,fun _=>none,fun _=>0,fun _ _ _=>v,fun b w hc _=>⟨0,0,.value v,w,by simp [h w hc],rfl,fun _ _ h=>(by cases h),fun _ h=>(by cases h),Chg.refl _ _⟩⟩
end
end Go.Proofs.YtlhddcingeneaaaGreatDoor
namespace Go.Proofs.YtlhddcingeneaaaGreatDoor
open Go Go.RowKit
/-! A part of a function's code: what is told of the frame ahead of it and behind it -/
structure St (nt:Nat) (l:Env) (a:Act):Prop where
 defers:a.defers = []
 size:a.tmps.size=nt
 has:∀ p,p ∈ l→a.tmps.getD p.1 undef=p.2.1
def Kp (ks:List Nat) (a a':Act):Prop:=∀ t,t ∈ ks→a'.tmps.getD t undef=a.tmps.getD t undef
theorem Kp.refl (ks:List Nat) (a:Act):Kp ks a a:=fun _ _=>rfl
theorem Kp.trans {ks:List Nat} {a b c:Act} (h:Kp ks a b) (k:Kp ks b c):Kp ks a c:=fun t ht=>(k t ht).trans (h t ht)
theorem Kp.mono {ks ls:List Nat} {a b:Act} (h:Kp ks a b) (hl:(ls.all fun t=>ks.contains t)=true):Kp ls a b:=fun t ht=>h t (by
 have:=List.all_eq_true.1 hl t ht
 simpa using this)
theorem St.keep {nt:Nat} {l l':Env} {ks:List Nat} {a a':Act} (h:St nt l a) (h':St nt l' a') (k:Kp ks a a') (hl:(l.all fun p=>ks.contains p.1)=true):St nt (l'++l) a' :=
 ⟨h'.defers,h'.size,fun p hp=>by
  rcases List.mem_append.1 hp with hp | hp
  ·exact h'.has p hp
  ·rw [k p.1 (by have:=List.all_eq_true.1 hl p hp;simpa using this)];exact h.has p hp⟩
theorem St.sub {nt:Nat} {l l':Env} {a:Act} (h:St nt l a) (hl:∀ p,p ∈ l'→p ∈ l):St nt l' a:=⟨h.defers,h.size,fun p hp=>h.has p (hl p hp)⟩
def envG (g:Nat→Value):Nat→Env
 | 0=>[]
 | n+1=>(n,(g n,0)) :: envG g n
theorem envG_look (g:Nat→Value) (t:Nat):∀ n,look t (envG g n)=if t<n then some (g t,0) else none
 | 0=>rfl
 | n+1=>by
  unfold envG
  by_cases h:n=t
  ·subst h;rw [look_cons_eq,if_pos (by omega)]
  ·rw [look_cons_ne _ _ h,envG_look g t n]
   by_cases h2:t<n
   ·rw [if_pos h2,if_pos (by omega)]
   ·rw [if_neg h2,if_neg (by omega)]
theorem St.env {nt:Nat} {l:Env} {a:Act} (h:St nt l a):EnvOk nt (l++envG (fun t=>a.tmps.getD t undef) nt) a :=
 ⟨h.defers,h.size,fun t=>by
  unfold envV
  rw [look_append]
  cases hl:look t l with
  | some x=>simp only [Option.some_or];exact h.has _ (look_mem hl)
  | none =>
   simp only [Option.none_or,envG_look]
   by_cases h2:t<nt
   ·rw [if_pos h2]
   ·rw [if_neg h2]
    simp only [Array.getD_eq_getD_getElem?]
    rw [Array.getElem?_eq_none (by rw [h.size];omega)];rfl⟩
def exEq:VEx→VEx→Bool
 | .n,.n=>true
 | .r,.r=>true
 | .x i,.x j=>Nat.beq i j
 | _,_=>false
theorem exEq_eq:∀ {x y:VEx},exEq x y=true→x=y
 | .n,.n,_=>rfl
 | .r,.r,_=>rfl
 | .x i,.x j,h=>by rw [Nat.eq_of_beq_eq_true h]
 | .n,.r,h=>by cases h
 | .n,.x _,h=>by cases h
 | .r,.n,h=>by cases h
 | .r,.x _,h=>by cases h
 | .x _,.n,h=>by cases h
 | .x _,.r,h=>by cases h
def wrC (t:Nat):Code→Bool
 | .region _ ops _=>ops.any fun o=>match o.dst with | some d=>Nat.beq d t | none=>false
 | .seq a b=>wrC t a || wrC t b
 | .cond _ a b=>wrC t a || wrC t b
 | .block _ c=>wrC t c
 | .loop c=>wrC t c
 | _=>false
def keeps (c:Code):Nat→List Nat
 | 0=>[]
 | n+1=>bif wrC n c then keeps c n else n :: keeps c n
theorem then_then {K:Act→World→Prop} {Q R:Exit→Act→World→Prop} {e:Exit} {a:Act} {w:World} (h:Exit.then K Q e a w) (hK:∀ a w,K a w→R .normal a w) (hQ:∀ e a w,e ≠ .normal→Q e a w→R e a w):R e a w:=by
 cases e with
 | normal=>exact hK _ _ h
 | exit id=>exact hQ _ _ _ (by simp) h
 | goto l=>exact hQ _ _ _ (by simp) h
 | ret=>exact hQ _ _ _ (by simp) h
 | panic c=>exact hQ _ _ _ (by simp) h
 | outgrown=>exact hQ _ _ _ (by simp) h
theorem then_off {K:Act→World→Prop} {Q:Exit→Act→World→Prop} {e:Exit} {a:Act} {w:World} (hne:e ≠ .normal) (h:Q e a w):Exit.then K Q e a w:=by
 cases e <;> first | exact absurd rfl hne | exact h
def wpL (P:Program):List Code→(Exit→Act→World→Prop)→Act→World→Prop
 | [],Q,a,w=>Q .normal a w
 | c :: l,Q,a,w=>c.wp P (Exit.then (fun a w=>wpL P l Q a w) Q) a w
theorem wpL_mono {P:Program}:∀ (l:List Code) {Q R:Exit→Act→World→Prop} {a:Act} {w:World},wpL P l Q a w→(∀ e a w,Q e a w→R e a w)→wpL P l R a w
 | [],Q,R,a,w,h,hq=>hq _ _ _ h
 | c :: l,Q,R,a,w,h,hq=>wp_mono (show c.wp P (Exit.then (fun a w=>wpL P l Q a w) Q) a w from h) (fun e a w h=>then_then h (fun a w h=>wpL_mono l h hq) (fun e a w hne h=>then_off hne (hq _ _ _ h)))
theorem wpL_append {P:Program}:∀ (l m:List Code) {Q:Exit→Act→World→Prop} {a:Act} {w:World},wpL P (l++m) Q a w→wpL P l (Exit.then (fun a w=>wpL P m Q a w) Q) a w
 | [],m,Q,a,w,h=>h
 | c :: l,m,Q,a,w,h=>wp_mono (show c.wp P (Exit.then (fun a w=>wpL P (l++m) Q a w) Q) a w from h) (fun e a w h=>then_then h (fun a w h=>wpL_append l m h) (fun e a w hne h=>then_off hne (then_off hne h)))
theorem wpL_one {P:Program} {c:Code} {Q:Exit→Act→World→Prop} {a:Act} {w:World} (h:wpL P [c] Q a w):c.wp P Q a w :=
 wp_mono (show c.wp P (Exit.then (fun a w=>Q .normal a w) Q) a w from h) (fun e a w h=>then_then h (fun _ _ h=>h) (fun _ _ _ _ h=>h))
def seqs:List Code→Code
 | []=>.skip
 | [c]=>c
 | c :: d :: l=>.seq c (seqs (d :: l))
theorem vmL_sound {P:Program} {X:Cx} (hm:P.follows .mixedOrders=true) (lk:List (Nat × Nat)) (nt:Nat):∀ (l:List Code) (n:Nat) (s:VSt P X) r0 a w Q,l ≠ []→KeysLt s.mem s.ctr→(∀ r,(∀ k,k<s.ctr→r k=r0 k)→Good lk nt r n (seqs l) s)→EnvOk nt s.env a→MemOk X (rB r0) s.mem w→Then P X lk nt r0 n (seqs l) s Q→wpL P l Q a w
 | [],n,s,r0,a,w,Q,h,_,_,_,_,_=>absurd rfl h
 | [c],n,s,r0,a,w,Q,_,hk,hg,hE,hM,hT=>by
  have:=(vmC_sound hm lk nt n).1 c s r0 a w Q hk hg hE hM hT
  exact wp_mono this (fun e a w h=>by cases e <;> exact h)
 | c :: d :: l,n,s,r0,a,w,Q,_,hk,hg,hE,hM,hT=>by
  cases n with
  | zero=>obtain ⟨e,s',q,z,h,-⟩:=hg r0 (fun _ _=>rfl);cases h
  | succ n =>
   show c.wp P (Exit.then (fun a w=>wpL P (d :: l) Q a w) Q) a w
   exact first_then (a:=c) (b:=seqs (d :: l)) (n:=n) (fun r=>vmC lk nt r (n+1) (.seq c (seqs (d :: l))) s) (fun r=>rfl) hk hg hT ((vmC_sound hm lk nt n).1 c) hE hM
    (fun a' w' s1 r1 h1 h2 h3 h4 h5=>vmL_sound hm lk nt (d :: l) n s1 r1 a' w' Q (by simp) h1 h4 h2 h3 h5)
    (fun e a' w' hne hq=>then_off hne hq)
section
variable {P:Program} {X:Cx}
def vmQ (lk:List (Nat × Nat)) (nt:Nat) (c:Code) (E0:Env) (M0:Mem) (c0:Nat) (r:Rn) (g:Nat→Value) (ds:List Dec) (ps:List (Item P X)) (x:VEx) (l':Env) (ks:List Nat) (out:Mem):Option (Eqs × Seqs) :=
 match vmC lk nt r 100000 c ⟨E0++envG g nt,M0,c0,ds,ps⟩ with
 | some (y,s,e,q)=>match exEq y x with
  | false=>none
  | true=>match outEqs s.mem out with
   | none=>none
   | some e3=>some (l'.map (fun p=>(envV s.env p.1,p.2.1))++(ks.map (fun t=>(envV s.env t,envV (E0++envG g nt) t))++(e3++e)),q)
 | none=>none
theorem outEqs_look {mem:Mem}:∀ (l:Mem) e,outEqs mem l=some e→∀ k x,look k l=some x→∃ y,look k mem=some y
 | [],_,_,k,x,h=>by cases h
 | (k',(t,cs)) :: l,e,h,k,x,hx=>by
  simp only [outEqs] at h
  split at h
  ·cases h
  ·rename_i t' cs' hl
   split at h
   ·cases h
   ·rename_i e' he'
    by_cases hk:k'=k
    ·subst hk;exact ⟨_,hl⟩
    ·rw [look_cons_ne _ _ hk] at hx
     exact outEqs_look l e' he' k x hx
theorem vm_fragG {R:Prop} (lk:List (Nat × Nat)) (nt:Nat) (c:Code) (E0:Rn→Env) (M0:Rn→Mem) (c0:Nat) (r0:Rn) {a:Act} {w:World} (hS:St nt (E0 r0) a) (hM:MemOk X (rB r0) (M0 r0) w)
  (hE:∀ r,(∀ k,k<c0→r k=r0 k)→E0 r0=E0 r∧M0 r0=M0 r) (hk:KeysLt (M0 r0) c0) (ds:List Dec) (ps:List (Item P X)) (x:VEx) (l':Rn→Env) (ks:List Nat) (out:Rn→Mem) {Q:Exit→Act→World→Prop}
  (hsnd:∀ s:VSt P X,KeysLt s.mem s.ctr→(∀ r,(∀ k,k<s.ctr→r k=r0 k)→Good lk nt r 100000 c s)→EnvOk nt s.env a→MemOk X (rB r0) s.mem w→Then P X lk nt r0 100000 c s Q→R)
  (h:∀ r g,vmL (vmQ lk nt c (E0 r) (M0 r) c0 r g ds ps x (l' r) ks (out r))=vmR (vmQ lk nt c (E0 r) (M0 r) c0 r g ds ps x (l' r) ks (out r)))
  (h2:∀ r g,vmSL (vmQ lk nt c (E0 r) (M0 r) c0 r g ds ps x (l' r) ks (out r))=vmSR (vmQ lk nt c (E0 r) (M0 r) c0 r g ds ps x (l' r) ks (out r)))
  (hQ:∀ r a' w',(∀ k,k<c0→r k=r0 k)→St nt (l' r) a'→Kp ks a a'→MemOk X (rB r) (out r) w'→Q (exOf x) a' w'):R:=by
 obtain ⟨g,hg⟩:∃ g,g=fun t=>a.tmps.getD t undef:=⟨_,rfl⟩
 have hall:∀ r,(∀ k,k<c0→r k=r0 k)→∃ s e q e3,vmC lk nt r 100000 c (⟨E0 r0++envG g nt,M0 r0,c0,ds,ps⟩:VSt P X)=some (x,s,e,q)∧outEqs s.mem (out r)=some e3∧Ok1 e∧Ok2 q∧Ok1 e3 ∧
   (∀ p,p ∈ l' r→envV s.env p.1=p.2.1)∧(∀ t,t ∈ ks→envV s.env t=envV (E0 r0++envG g nt) t):=fun r hr=>by
  obtain ⟨e,q,hx,ho1,ho2⟩:=vmF_ok (h r g) (h2 r g)
  unfold vmQ at hx
  rw [← (hE r hr).1,← (hE r hr).2] at hx
  split at hx
  ·rename_i y s e' q' hv
   split at hx
   ·cases hx
   ·rename_i hy
    have hy:=exEq_eq hy
    subst hy
    split at hx
    ·cases hx
    ·rename_i e3 hr3
     simp only [Option.some.injEq,Prod.mk.injEq] at hx
     obtain ⟨rfl,rfl⟩:=hx
     refine ⟨s,e',q',e3,hv,hr3,ho1.right.right.right,ho2,ho1.right.right.left,fun p hp=>?_,fun t ht=>?_⟩
     ·exact ho1.left (envV s.env p.1,p.2.1) (List.mem_map.2 ⟨p,hp,rfl⟩)
     ·exact ho1.right.left (envV s.env t,envV (E0 r0++envG g nt) t) (List.mem_map.2 ⟨t,ht,rfl⟩)
  ·cases hx
 have hEnv:=hS.env
 rw [← hg] at hEnv
 refine hsnd ⟨E0 r0++envG g nt,M0 r0,c0,ds,ps⟩ hk (fun r hr=>?_) hEnv hM ?_
 ·obtain ⟨s,e,q,e3,hv,-,h1,h3,-⟩:=hall r hr
  exact ⟨x,s,e,q,hv,h1,h3⟩
 ·intro r e s' q z a' w' hr hv h1 h3 hE' hMM hkk
  obtain ⟨s,e4,q4,e3,hv',hout,-,-,ho3,hl,hks⟩:=hall r hr
  rw [hv] at hv'
  simp only [Option.some.injEq,Prod.mk.injEq] at hv'
  obtain ⟨rfl,rfl,rfl,rfl⟩:=hv'
  refine hQ r a' w' hr ⟨hE'.defers,hE'.size,fun p hp=>?_⟩ (fun t ht=>?_) ⟨hMM.below,fun k x hx=>?_,fun k k' x x' hx hx' he=>?_⟩
  ·rw [hE'.val,hl p hp]
  ·rw [hE'.val,hks t ht,hEnv.val]
  ·exact outEqs_sound hMM (out r) e3 hout ho3 (k,x) (look_mem hx)
  ·obtain ⟨y,hy⟩:=outEqs_look (out r) e3 hout k x hx
   obtain ⟨y',hy'⟩:=outEqs_look (out r) e3 hout k' x' hx'
   exact hMM.inj k k' y y' hy hy' he
theorem vm_fragA (hm:P.follows .mixedOrders=true) (lk:List (Nat × Nat)) (nt:Nat) (cs:List Code) (hcs:cs ≠ []) (E0:Rn→Env) (M0:Rn→Mem) (c0:Nat) (r0:Rn) {a:Act} {w:World} (hS:St nt (E0 r0) a) (hM:MemOk X (rB r0) (M0 r0) w)
  (hE:∀ r,(∀ k,k<c0→r k=r0 k)→E0 r0=E0 r∧M0 r0=M0 r) (hk:KeysLt (M0 r0) c0) (ds:List Dec) (ps:List (Item P X)) (x:VEx) (l':Rn→Env) (ks:List Nat) (out:Rn→Mem) {Q:Exit→Act→World→Prop}
  (h:∀ r g,vmL (vmQ lk nt (seqs cs) (E0 r) (M0 r) c0 r g ds ps x (l' r) ks (out r))=vmR (vmQ lk nt (seqs cs) (E0 r) (M0 r) c0 r g ds ps x (l' r) ks (out r)))
  (h2:∀ r g,vmSL (vmQ lk nt (seqs cs) (E0 r) (M0 r) c0 r g ds ps x (l' r) ks (out r))=vmSR (vmQ lk nt (seqs cs) (E0 r) (M0 r) c0 r g ds ps x (l' r) ks (out r)))
  (hQ:∀ r a' w',(∀ k,k<c0→r k=r0 k)→St nt (l' r) a'→Kp ks a a'→MemOk X (rB r) (out r) w'→Q (exOf x) a' w'):wpL P cs Q a w :=
 vm_fragG lk nt (seqs cs) E0 M0 c0 r0 hS hM hE hk ds ps x l' ks out (fun s h1 h2 h3 h4 h5=>vmL_sound hm lk nt cs 100000 s r0 a w _ hcs h1 h2 h3 h4 h5) h h2 hQ
theorem vm_fragL (hm:P.follows .mixedOrders=true) (lk:List (Nat × Nat)) (nt:Nat) (cs:List Code) (hcs:cs ≠ []) (E0:(Nat→Nat)→Env) (M0:(Nat→Nat)→Mem) (c0:Nat) (r0:Nat→Nat) {a:Act} {w:World} (hS:St nt (E0 r0) a) (hM:MemOk X r0 (M0 r0) w)
  (hE:∀ r,(∀ k,k<c0→r k=r0 k)→E0 r0=E0 r∧M0 r0=M0 r) (hk:KeysLt (M0 r0) c0) (ds:List Dec) (ps:List (Item P X)) (x:VEx) (l':(Nat→Nat)→Env) (ks:List Nat) (out:(Nat→Nat)→Mem) {Q:Exit→Act→World→Prop}
  (h:∀ r g,vmL (vmQ lk nt (seqs cs) (E0 (rB r)) (M0 (rB r)) c0 r g ds ps x (l' (rB r)) ks (out (rB r)))=vmR (vmQ lk nt (seqs cs) (E0 (rB r)) (M0 (rB r)) c0 r g ds ps x (l' (rB r)) ks (out (rB r))):=by intro r g;kernel_rfl)
  (h2:∀ r g,vmSL (vmQ lk nt (seqs cs) (E0 (rB r)) (M0 (rB r)) c0 r g ds ps x (l' (rB r)) ks (out (rB r)))=vmSR (vmQ lk nt (seqs cs) (E0 (rB r)) (M0 (rB r)) c0 r g ds ps x (l' (rB r)) ks (out (rB r))):=by intro r g;kernel_rfl)
  (hQ:∀ r a' w',(∀ k,k<c0→r k=r0 k)→St nt (l' r) a'→Kp ks a a'→MemOk X r (out r) w'→Q (exOf x) a' w'):wpL P cs Q a w:=by
 have q:∀ r:Rn,(∀ k,k<c0→r k=(r0 k,0))→∀ k,k<c0→rB r k=r0 k:=fun r hr k hk=>by unfold rB;rw [hr k hk]
 exact vm_fragA hm lk nt cs hcs (fun r=>E0 (rB r)) (fun r=>M0 (rB r)) c0 (fun k=>(r0 k,0)) hS hM (fun r hr=>hE (rB r) (q r hr)) hk ds ps x (fun r=>l' (rB r)) ks (fun r=>out (rB r)) h h2 (fun r a' w' hr=>hQ (rB r) a' w' (q r hr))
theorem vm_piece (hm:P.follows .mixedOrders=true) (lk:List (Nat × Nat)) (nt:Nat) (cs:List Code) (hcs:cs.isEmpty=false) {E0:Env} {a:Act} {w:World} (hS:St nt E0 a) (ds:List Dec) (ps:List (Item P ⟨w,[]⟩)) (x:VEx) (l':Env) (ks:List Nat) {Q:Exit→Act→World→Prop}
  (h:∀ r g,vmL (vmQ lk nt (seqs cs) E0 [] 0 r g ds ps x l' ks [])=vmR (vmQ lk nt (seqs cs) E0 [] 0 r g ds ps x l' ks []):=by intro r g;kernel_rfl)
  (h2:∀ r g,vmSL (vmQ lk nt (seqs cs) E0 [] 0 r g ds ps x l' ks [])=vmSR (vmQ lk nt (seqs cs) E0 [] 0 r g ds ps x l' ks []):=by intro r g;kernel_rfl)
  (hQ:∀ a' w',St nt l' a'→Kp ks a a'→Chg [] w w'→Q (exOf x) a' w'):wpL P cs Q a w :=
 vm_fragL (X:=⟨w,[]⟩) hm lk nt cs (by rintro rfl;cases hcs) (fun _=>E0) (fun _=>[]) 0 (fun _=>0) hS ⟨Chg.refl _ _,fun k x h=>(by cases h),fun k k' x x' h=>by cases h⟩ (fun _ _=>⟨rfl,rfl⟩) (fun k x h=>by cases h) ds ps x (fun _=>l') ks (fun _=>[]) h h2
  (fun r a' w' _ hS hK hM=>hQ a' w' hS hK hM.below)
theorem vm_one (hm:P.follows .mixedOrders=true) (lk:List (Nat × Nat)) (nt:Nat) (cs:List Code) (hcs:cs.isEmpty=false) {E0:Nat→Env} {a:Act} {w:World} (b:Nat) (t:TypeId) (bs bs':Array Value) (hS:St nt (E0 b) a) (hB:Hc w b t bs) (ds:List Dec) (ps:List (Item P ⟨w,[b]⟩)) (x:VEx) (l':Nat→Env) (ks:List Nat) {Q:Exit→Act→World→Prop}
  (h:∀ r g,vmL (vmQ lk nt (seqs cs) (E0 (r 0).1) [(0,(t,bs))] 1 r g ds ps x (l' (r 0).1) ks [(0,(t,bs'))])=vmR (vmQ lk nt (seqs cs) (E0 (r 0).1) [(0,(t,bs))] 1 r g ds ps x (l' (r 0).1) ks [(0,(t,bs'))]):=by intro r g;kernel_rfl)
  (h2:∀ r g,vmSL (vmQ lk nt (seqs cs) (E0 (r 0).1) [(0,(t,bs))] 1 r g ds ps x (l' (r 0).1) ks [(0,(t,bs'))])=vmSR (vmQ lk nt (seqs cs) (E0 (r 0).1) [(0,(t,bs))] 1 r g ds ps x (l' (r 0).1) ks [(0,(t,bs'))]):=by intro r g;kernel_rfl)
  (hQ:∀ a' w',St nt (l' b) a'→Kp ks a a'→Chg [b] w w'→Hc w' b t bs'→Q (exOf x) a' w'):wpL P cs Q a w:=by
 refine vm_fragL (X:=⟨w,[b]⟩) hm lk nt cs (by rintro rfl;cases hcs) (fun r=>E0 (r 0)) (fun r=>[(0,(t,bs))]) 1 (fun _=>b) hS ⟨Chg.refl _ _,fun k x h=>?_,fun k k' x x' h h' _=>?_⟩ (fun r hr=>⟨by rw [hr 0 (by omega)],rfl⟩) (fun k x h=>?_) ds ps x (fun r=>l' (r 0)) ks (fun _=>[(0,(t,bs'))]) h h2
  (fun r a' w' hr hS hK hM=>?_)
 ·have:=look_mem h
  simp only [List.mem_singleton,Prod.mk.injEq] at this
  obtain ⟨rfl,rfl⟩:=this
  exact ⟨hB,.inr (by simp)⟩
 ·have h1:=look_mem h
  have h2:=look_mem h'
  simp only [List.mem_singleton,Prod.mk.injEq] at h1 h2
  omega
 ·have h1:=look_mem h
  simp only [List.mem_singleton,Prod.mk.injEq] at h1
  omega
 ·have hr0:=hr 0 (by omega)
  have:=hM.has 0 (t,bs') (look_cons_eq 0 _ [])
  rw [hr0] at this
  simp only [hr0] at hS
  exact hQ a' w' hS hK hM.below this.1
end
/-! ways to a part of the code -/
def cB (id:Nat):Code→Code
 | .block i c=>if Nat.beq i id then .block i c else cB id c
 | .seq a b=>match cB id a with
  | .skip=>cB id b
  | c=>c
 | .cond _ a b=>match cB id a with
  | .skip=>cB id b
  | c=>c
 | .loop c=>cB id c
 | _=>.skip
def cI:Code→Code
 | .block _ c=>c
 | .loop c=>c
 | c=>c
def cT:Code→Code
 | .cond _ a _=>a
 | c=>c
def cF:Code→Code
 | .cond _ _ b=>b
 | c=>c
def cut (id:Nat):Code→Option (List Code × Code × List Code)
 | .block i c=>bif Nat.beq i id then some ([],.block i c,[]) else none
 | .seq a b=>match cut id a with
  | some (x,y,z)=>some (x,y,z ++ [b])
  | none=>match cut id b with
   | some (x,y,z)=>some (a :: x,y,z)
   | none=>none
 | _=>none
def cPre (id:Nat) (c:Code):List Code:=match cut id c with
 | some (x,_,_)=>x
 | none=>[]
def cAt (id:Nat) (c:Code):Code:=match cut id c with
 | some (_,y,_)=>y
 | none=>.skip
def cPost (id:Nat) (c:Code):List Code:=match cut id c with
 | some (_,_,z)=>z
 | none=>[]
theorem wp_cut' {P:Program} {id:Nat}:∀ (c:Code) {x y z},cut id c=some (x,y,z)→∀ {Q:Exit→Act→World→Prop} {a:Act} {w:World},
  wpL P x (Exit.then (fun a w=>y.wp P (Exit.then (fun a w=>wpL P z Q a w) Q) a w) Q) a w→c.wp P Q a w:=by
 intro c
 induction c with
 | block i c _ =>
  intro x y z h Q a w hw
  simp only [cut] at h
  cases hb:Nat.beq i id with
  | false=>rw [hb] at h;cases h
  | true =>
   rw [hb] at h
   simp only [cond_true,Option.some.injEq,Prod.mk.injEq] at h
   obtain ⟨rfl,rfl,rfl⟩:=h
   exact wp_mono hw (fun e a w h=>then_then h (fun _ _ h=>h) (fun _ _ _ _ h=>h))
 | seq c d ihc ihd =>
  intro x y z h Q a w hw
  simp only [cut] at h
  split at h
  ·rename_i x' y' z' hc
   simp only [Option.some.injEq,Prod.mk.injEq] at h
   obtain ⟨rfl,rfl,rfl⟩:=h
   refine wp_seq (ihc hc (wpL_mono _ hw (fun e a w h=>?_)))
   refine then_then h (fun a w h=>?_) (fun e a w hne h=>then_off hne (then_off hne h))
   refine wp_mono h (fun e a w h=>?_)
   refine then_then h (fun a w h=>?_) (fun e a w hne h=>then_off hne (then_off hne h))
   show wpL P z' (Exit.then (d.wp P Q) Q) a w
   refine wpL_mono _ (wpL_append _ _ h) (fun e a w h=>?_)
   refine then_then h (fun a w h=>?_) (fun e a w hne h=>then_off hne h)
   exact wp_mono (show d.wp P (Exit.then (fun a w=>Q .normal a w) Q) a w from h) (fun e a w h=>then_then h (fun _ _ h=>h) (fun _ _ _ _ h=>h))
  ·rename_i hc
   split at h
   ·rename_i x' y' z' hd
    simp only [Option.some.injEq,Prod.mk.injEq] at h
    obtain ⟨rfl,rfl,rfl⟩:=h
    refine wp_seq (wp_mono (show c.wp P (Exit.then (wpL P x' _) _) a w from hw) (fun e a w h=>?_))
    exact then_then h (fun a w h=>ihd hd h) (fun e a w hne h=>by cases e <;> first | exact absurd rfl hne | exact h)
   ·cases h
 | _=>intro x y z h;simp [cut] at h
theorem wp_cut {P:Program} {c:Code} (id:Nat) (h:(cut id c).isSome=true) {Q:Exit→Act→World→Prop} {a:Act} {w:World}
  (hw:wpL P (cPre id c) (Exit.then (fun a w=>(cAt id c).wp P (Exit.then (fun a w=>wpL P (cPost id c) Q a w) Q) a w) Q) a w):c.wp P Q a w:=by
 unfold cPre cAt cPost at hw
 cases hc:cut id c with
 | none=>rw [hc] at h;cases h
 | some p =>
  obtain ⟨x,y,z⟩:=p
  simp only [hc] at hw
  exact wp_cut' c hc hw
def isBlk (id:Nat):Code→Bool
 | .block i _=>Nat.beq i id
 | _=>false
def isLoop:Code→Bool
 | .loop _=>true
 | _=>false
theorem wp_blk {P:Program} {c:Code} (id:Nat) (h:isBlk id c=true) {Q:Exit→Act→World→Prop} {a:Act} {w:World} (k:(cI c).wp P (Exit.inBlock id Q) a w):c.wp P Q a w:=by
 unfold isBlk at h
 split at h
 ·have:=Nat.eq_of_beq_eq_true h
  subst this
  exact wp_block k
 ·cases h
theorem wp_lp {P:Program} {c:Code} (h:isLoop c=true) {Q:Exit→Act→World→Prop} {a:Act} {w:World} (I:Nat→Act→World→Prop) (n:Nat) (h0:I n a w)
  (round:∀ n a w,I n a w→(cI c).wp P (Exit.then (fun a' w'=>∃ m,m<n∧I m a' w') Q) a w):c.wp P Q a w:=by
 unfold isLoop at h
 split at h
 ·exact wp_loop_ghost I n h0 (fun n a w h=>wp_mono (round n a w h) (fun e a w h=>then_then h (fun a w h=>h) (fun e a w hne h=>then_off hne h)))
 ·cases h
theorem wp_for {P:Program} {c:Code} (id:Nat) (h:isBlk id c=true) (h2:isLoop (cI c)=true) {Q:Exit→Act→World→Prop} {a:Act} {w:World} (I:Nat→Act→World→Prop) (n:Nat) (h0:I n a w)
  (round:∀ n a w,I n a w→(cI (cI c)).wp P (Exit.then (fun a' w'=>∃ m,m<n∧I m a' w') (Exit.inBlock id Q)) a w):c.wp P Q a w :=
 wp_blk id h (wp_lp h2 I n h0 round)
section
variable {P:Program} {X:Cx}
def lE (k:IntKind) (a e:Int) (h:k.wrap a=e):Item P X :=
 .look ⟨none,fun _=>(0,#[]),fun _=>pure (.value (.int k (k.wrap a))),none,fun _=>none,fun _=>0,fun _ _ _=>.int k e,fun b w hc _=>⟨0,0,.value (.int k (k.wrap a)),w,rfl,by rw [h];rfl,fun _ _ h=>(by cases h),fun _ h=>(by cases h),Chg.refl _ _⟩⟩
def lP (v v':Value) (h:v=v'):Item P X :=
 .look ⟨none,fun _=>(0,#[]),fun _=>pure (.value v),none,fun _=>none,fun _=>0,fun _ _ _=>v',fun b w hc _=>⟨0,0,.value v,w,rfl,by rw [h];rfl,fun _ _ h=>(by cases h),fun _ h=>(by cases h),Chg.refl _ _⟩⟩
def lB (key:Nat) (t:TypeId) (cs:Array Value) (x:Nat→Sem Value) (v:Nat→Value) (tag:Nat) (h:∀ b w,Chg X.L X.w0 w→Hc w b t cs→(x b).run P w = .ok (v b) w):Item P X :=
 .look ⟨some key,fun _=>(t,cs),fun b=>(do pure (.value (← x b))),none,fun _=>none,fun _=>tag,fun b _ _=>v b,fun b w hc hk=>⟨0,0,.value (v b),w,by simp [h b w hc (hk rfl).2],rfl,fun _ _ h=>(by cases h),fun _ h=>(by cases h),Chg.refl _ _⟩⟩
def lS (key:Nat) (t:TypeId) (cs cs':Array Value) (x:Nat→Sem Unit) (h:∀ b w,Chg X.L X.w0 w→Hc w b t cs→∃ w',(x b).run P w = .ok () w'∧Hc w' b t cs'∧Chg [b] w w'):Item P X :=
 .look ⟨some key,fun _=>(t,cs),fun b=>(do x b;pure .skip),some (fun _=>cs'),fun _=>none,fun _=>0,fun _ _ _=>undef,fun b w hc hk=>by
  obtain ⟨w',h1,h2,h3⟩:=h b w hc (hk rfl).2
  exact ⟨0,0,.skip,w',by simp [h1],rfl,fun _ _ h=>(by cases h),fun g hg=>(by cases hg;exact h2),h3⟩⟩
end
theorem Chg.cell {L:List Nat} {w w':World} (h:Chg L w w') {b o:Nat} {v:Value} (hb:b ∉ L) (hc:w.cell? ⟨b,o,none⟩=some v):w'.cell? ⟨b,o,none⟩=some v:=by
 have hlt:b<w.heap.size:=by
  unfold World.cell? at hc
  cases hh:w.heap[b]? with
  | none=>simp [hh] at hc
  | some x=>exact (Array.getElem?_eq_some_iff.1 hh).1
 unfold World.cell? at hc ⊢
 rw [h.block b hlt hb];exact hc
theorem Chg.cell0 {w w':World} (h:Chg [] w w') {b o:Nat} {v:Value} (hc:w.cell? ⟨b,o,none⟩=some v):w'.cell? ⟨b,o,none⟩=some v:=h.cell (by simp) hc

abbrev dT {b:Bool} (h:b=true):Dec:=.p b true h
abbrev dF {b:Bool} (h:b=false):Dec:=.p b false h
theorem nT {b:Bool} (h:b=true):(!b)=false:=by rw [h];rfl
theorem nF {b:Bool} (h:b=false):(!b)=true:=by rw [h];rfl
def cDr {P:Program} {X:Cx} {f:FuncId} {args:Array Value} (v:Nat→Value) (h:∀ w,Chg X.L X.w0 w→Calls P f args w (fun e w'=>∃ n,e = .returned (v n)∧Below w.heap.size w w')):Item P X :=
 .call ⟨f,none,fun _=>args,fun _=>(0,#[]),none,fun _=>none,fun _=>0,fun _ n _=>v n,fun b w hc _=>(h w hc).mono (fun e w' ⟨n,h1,h2⟩=>⟨n,0,h1,fun _ _ h=>(by cases h),fun _ h=>(by cases h),Chg.of_below h2 _⟩)⟩
def cO {P:Program} {X:Cx} {f:FuncId} {v:Value} (key:Nat) (t:TypeId) (cs cs':Array Value) {args:Nat→Array Value} (h:∀ b w,Chg X.L X.w0 w→X.Own b→Hc w b t cs→Calls P f (args b) w (fun e w'=>e = .returned v∧Hc w' b t cs'∧Chg [b] w w')):Item P X :=
 .call ⟨f,some key,args,fun _=>(t,cs),some (fun _=>cs'),fun _=>none,fun _=>0,fun _ _ _=>v,fun b w hc hk=>(h b w hc (hk rfl).1 (hk rfl).2).mono (fun e w' h=>⟨0,0,h.1,fun _ _ h=>(by cases h),fun g hg=>(by cases hg;exact h.2.1),h.2.2⟩)⟩
def cP {P:Program} {X:Cx} {f:FuncId} {v:Value} (k1 k2:Nat) (t1:TypeId) (c1:Array Value) (t2:TypeId) (c2:Array Value) {args:Nat→Nat→Array Value} (h:∀ b c w,Chg X.L X.w0 w→Hc w b t1 c1→Hc w c t2 c2→Calls P f (args b c) w (RetV v w)):Item P X :=
 .call2 ⟨f,k1,k2,(t1,c1),(t2,c2),args,v,fun b c w hc h1 h2=>(h b c w hc h1 h2).mono (fun e w' h=>⟨h.1,Chg.of_below h.2 _⟩)⟩
def cS {P:Program} {X:Cx} {f:FuncId} {args:Array Value} (t:TypeId) (cs:Nat→Array Value) (v:Nat→Nat→Value) (h:∀ w,Chg X.L X.w0 w→Calls P f args w (fun e w'=>∃ n m,w.heap.size≤n∧e = .returned (v n m)∧Hc w' n t (cs m)∧Below w.heap.size w w')):Item P X :=
 .call ⟨f,none,fun _=>args,fun _=>(0,#[]),none,fun m=>some (t,cs m),fun k=>k+1,fun _ n m=>v n m,fun b w hc _=>(h w hc).mono (fun e w' ⟨n,m,h1,h2,h3,h4⟩=>⟨n,m,h2,fun t' c' h=>(by cases h;exact ⟨h1,h3⟩),fun _ h=>(by cases h),Chg.of_below h4 _⟩)⟩
/-! pieces with several blocks -/
theorem keysLt_all {m:Mem} {n:Nat} (h:(m.all fun p=>Nat.blt p.1 n)=true):KeysLt m n:=fun k x hk=>by
 have:=List.all_eq_true.1 h _ (look_mem hk)
 simpa [Nat.blt_eq] using this
theorem MemOk.agree {X:Cx} {r r':Nat→Nat} {m:Mem} {w:World} {n:Nat} (h:MemOk X r' m w) (hk:KeysLt m n) (hr:∀ k,k<n→r' k=r k):MemOk X r m w :=
 ⟨h.below,fun k x hx=>by rw [← hr k (hk k x hx)];exact h.has k x hx,fun k k' x x' hx hx' e=>h.inj k k' x x' hx hx' (by rw [hr k (hk k x hx),hr k' (hk k' x' hx')];exact e)⟩
theorem then_n {K:Act→World→Prop} {Q:Exit→Act→World→Prop} {a:Act} {w:World} (h:K a w):Exit.then K Q .normal a w:=h
theorem wpL_nil {P:Program} {Q:Exit→Act→World→Prop} {a:Act} {w:World} (h:Q .normal a w):wpL P [] Q a w:=h
theorem inBlock_n {id:Nat} {Q:Exit→Act→World→Prop} {a:Act} {w:World} (h:Q .normal a w):Exit.inBlock id Q .normal a w:=h
theorem exit_n {id:Nat} {K:Act→World→Prop} {Q:Exit→Act→World→Prop} {a:Act} {w:World} (h:Q .normal a w):Exit.then K (Exit.inBlock id Q) (exOf (VEx.x id)) a w:=by
 show Exit.inBlock id Q (.exit id) a w
 unfold Exit.inBlock
 simp [h]
theorem ret_r {id:Nat} {K K':Act→World→Prop} {Q:Exit→Act→World→Prop} {a:Act} {w:World} (h:Q .ret a w):Exit.then K (Exit.inBlock id (Exit.then K' Q)) (exOf VEx.r) a w:=by
 show Exit.inBlock id _ .ret a w
 unfold Exit.inBlock
 exact h
theorem ne_nil {α:Type} {l:List α} (h:l.isEmpty=false):l ≠ []:=by rintro rfl;cases h
theorem vm_keep {P:Program} {X:Cx} (hm:P.follows .mixedOrders=true) (lk:List (Nat × Nat)) (nt:Nat) (cs:List Code) (hcs:cs ≠ []) (E0:(Nat→Nat)→Env) (M0:(Nat→Nat)→Mem) (c0:Nat) (r0:Nat→Nat) {a:Act} {w:World} (hS:St nt (E0 r0) a) (hM:MemOk X r0 (M0 r0) w)
  (hE:∀ r,(∀ k,k<c0→r k=r0 k)→E0 r0=E0 r∧M0 r0=M0 r) (hk:KeysLt (M0 r0) c0) (ds:List Dec) (ps:List (Item P X)) (x:VEx) (l':(Nat→Nat)→Env) (ks:List Nat) (out:(Nat→Nat)→Mem) {Q:Exit→Act→World→Prop}
  (hE2:∀ r,(∀ k,k<c0→r k=r0 k)→l' r0=l' r∧out r0=out r) (hk2:KeysLt (out r0) c0)
  (h:∀ r g,vmL (vmQ lk nt (seqs cs) (E0 (rB r)) (M0 (rB r)) c0 r g ds ps x (l' (rB r)) ks (out (rB r)))=vmR (vmQ lk nt (seqs cs) (E0 (rB r)) (M0 (rB r)) c0 r g ds ps x (l' (rB r)) ks (out (rB r))):=by intro r g;kernel_rfl)
  (h2:∀ r g,vmSL (vmQ lk nt (seqs cs) (E0 (rB r)) (M0 (rB r)) c0 r g ds ps x (l' (rB r)) ks (out (rB r)))=vmSR (vmQ lk nt (seqs cs) (E0 (rB r)) (M0 (rB r)) c0 r g ds ps x (l' (rB r)) ks (out (rB r))):=by intro r g;kernel_rfl)
  (hQ:∀ a' w',St nt (l' r0) a'→Kp ks a a'→MemOk X r0 (out r0) w'→Q (exOf x) a' w'):wpL P cs Q a w :=
 vm_fragL hm lk nt cs hcs E0 M0 c0 r0 hS hM hE hk ds ps x l' ks out h h2 (fun r a' w' hr hS' hK hM'=>by
  rw [← (hE2 r hr).1] at hS'
  rw [← (hE2 r hr).2] at hM'
  exact hQ a' w' hS' hK (hM'.agree hk2 hr))
theorem MemOk.sub {X:Cx} {r:Nat→Nat} {m m':Mem} {w:World} (h:MemOk X r m w) (hs:∀ k x,look k m'=some x→look k m=some x):MemOk X r m' w :=
 ⟨h.below,fun k x hx=>h.has k x (hs k x hx),fun k k' x x' hx hx' e=>h.inj k k' x x' (hs _ _ hx) (hs _ _ hx') e⟩
def vmT (P:Program) (r:Nat→Nat) (env:Env) (mem:Mem) (l:List ResultVar) (v:Value):Option (Eqs × Seqs) :=
 match vmRes P r env mem l with
 | none=>none
 | some (vs,e)=>some ((retV vs,v) :: e,[])
theorem vf {P:Program} {X:Cx} (lk:List (Nat × Nat)) (nt:Nat) (cs:List Code) (E0:(Nat→Nat)→Env) (M0:(Nat→Nat)→Mem) (c0:Nat) (r0:Nat→Nat) {a:Act} {w:World} (hS:St nt (E0 r0) a) (hM:MemOk X r0 (M0 r0) w) (ds:List Dec) (ps:List (Item P X)) (x:VEx) (l':(Nat→Nat)→Env) (ks:List Nat) (out:(Nat→Nat)→Mem) {Q:Exit→Act→World→Prop}
  (hQ:∀ r a' w',(∀ k,k<c0→r k=r0 k)→St nt (l' r) a'→Kp ks a a'→MemOk X r (out r) w'→Q (exOf x) a' w')
  (hm:P.follows .mixedOrders=true:=by kernel_rfl) (hcs:cs ≠ []:=by exact ne_nil kr)
  (hE:∀ r,(∀ k,k<c0→r k=r0 k)→E0 r0=E0 r∧M0 r0=M0 r:=by intro r hr;exact ⟨by first | rfl | (simp (discharger:=omega) only [hr]),by first | rfl | (simp (discharger:=omega) only [hr])⟩) (hk:KeysLt (M0 r0) c0:=by exact keysLt_all kr)
  (h:∀ r g,vmL (vmQ lk nt (seqs cs) (E0 (rB r)) (M0 (rB r)) c0 r g ds ps x (l' (rB r)) ks (out (rB r)))=vmR (vmQ lk nt (seqs cs) (E0 (rB r)) (M0 (rB r)) c0 r g ds ps x (l' (rB r)) ks (out (rB r))):=by intro r g;kernel_rfl)
  (h2:∀ r g,vmSL (vmQ lk nt (seqs cs) (E0 (rB r)) (M0 (rB r)) c0 r g ds ps x (l' (rB r)) ks (out (rB r)))=vmSR (vmQ lk nt (seqs cs) (E0 (rB r)) (M0 (rB r)) c0 r g ds ps x (l' (rB r)) ks (out (rB r))):=by intro r g;kernel_rfl):wpL P cs Q a w:=vm_fragL hm lk nt cs hcs E0 M0 c0 r0 hS hM hE hk ds ps x l' ks out h h2 hQ
theorem vk {P:Program} {X:Cx} (lk:List (Nat × Nat)) (nt:Nat) (cs:List Code) (E0:(Nat→Nat)→Env) (M0:(Nat→Nat)→Mem) (c0:Nat) (r0:Nat→Nat) {a:Act} {w:World} (hS:St nt (E0 r0) a) (hM:MemOk X r0 (M0 r0) w) (ds:List Dec) (ps:List (Item P X)) (x:VEx) (l':(Nat→Nat)→Env) (ks:List Nat) (out:(Nat→Nat)→Mem) {Q:Exit→Act→World→Prop}
  (hQ:∀ a' w',St nt (l' r0) a'→Kp ks a a'→MemOk X r0 (out r0) w'→Q (exOf x) a' w')
  (hm:P.follows .mixedOrders=true:=by kernel_rfl) (hcs:cs ≠ []:=by exact ne_nil kr)
  (hE:∀ r,(∀ k,k<c0→r k=r0 k)→E0 r0=E0 r∧M0 r0=M0 r:=by intro r hr;exact ⟨by first | rfl | (simp (discharger:=omega) only [hr]),by first | rfl | (simp (discharger:=omega) only [hr])⟩) (hk:KeysLt (M0 r0) c0:=by exact keysLt_all kr)
  (hE2:∀ r,(∀ k,k<c0→r k=r0 k)→l' r0=l' r∧out r0=out r:=by intro r hr;exact ⟨by first | rfl | (simp (discharger:=omega) only [hr]),by first | rfl | (simp (discharger:=omega) only [hr])⟩) (hk2:KeysLt (out r0) c0:=by exact keysLt_all kr)
  (h:∀ r g,vmL (vmQ lk nt (seqs cs) (E0 (rB r)) (M0 (rB r)) c0 r g ds ps x (l' (rB r)) ks (out (rB r)))=vmR (vmQ lk nt (seqs cs) (E0 (rB r)) (M0 (rB r)) c0 r g ds ps x (l' (rB r)) ks (out (rB r))):=by intro r g;kernel_rfl)
  (h2:∀ r g,vmSL (vmQ lk nt (seqs cs) (E0 (rB r)) (M0 (rB r)) c0 r g ds ps x (l' (rB r)) ks (out (rB r)))=vmSR (vmQ lk nt (seqs cs) (E0 (rB r)) (M0 (rB r)) c0 r g ds ps x (l' (rB r)) ks (out (rB r))):=by intro r g;kernel_rfl):wpL P cs Q a w:=vm_keep hm lk nt cs hcs E0 M0 c0 r0 hS hM hE hk ds ps x l' ks out hE2 hk2 h h2 hQ
theorem vm_ret {P:Program} {X:Cx} {fn:Func} {r:Nat→Nat} {E:Env} {M:Mem} {a:Act} {w:World} {post:Ending→World→Prop} (hS:St fn.ntmps E a) (hM:MemOk X r M w) (v:Value)
  (h:∀ g,vmL (vmT P r (E++envG g fn.ntmps) M fn.results.toList v)=vmR (vmT P r (E++envG g fn.ntmps) M fn.results.toList v)) (hp:post (.returned v) w):bodyPost P fn post .ret a w:=by
 obtain ⟨e,q,hx,ho1,-⟩:=vmF_ok (h (fun t=>a.tmps.getD t undef)) (by unfold vmT;split <;> rfl)
 unfold vmT at hx
 split at hx
 ·cases hx
 ·rename_i vs e2 hres
  simp only [Option.some.injEq,Prod.mk.injEq] at hx
  obtain ⟨rfl,rfl⟩:=hx
  have hE:=hS.env
  obtain ⟨g,g1,g2,g3⟩:∃ g:ResultVar→Sem Value,(∀ t,g (.tmp t)=pure (a.tmps.getD t undef))∧(∀ b t,g (.cell b t)=do loadVar t (← asAddr (a.tmps.getD b undef))) ∧
    results fn a.tmps=(do let vs ← fn.results.mapM g;pure (if h:vs.size=1 then vs[0] else .tuple vs)) :=
   ⟨fun | .tmp t=>pure (a.tmps.getD t undef) | .cell b t=>do loadVar t (← asAddr (a.tmps.getD b undef)),fun _=>rfl,fun _ _=>rfl,rfl⟩
  have hR:=vmRes_sound (P:=P) hE hM g g1 g2 fn.results.toList vs e2 hres (fun p hp=>ho1 p (List.mem_cons_of_mem _ hp))
  have hret:=ho1 (retV vs,v) List.mem_cons_self
  refine ⟨hE.defers,v,?_,hp⟩
  rw [g3,Array.mapM_eq_mapM_toList]
  simp only [Sem.run_bind,Sem.run_map]
  rw [hR]
  simp only [Result.andThen_ok,Sem.run_pure]
  rw [← show retV vs=v from hret]
  congr 1
  match vs with
  | []=>rfl
  | [x]=>rfl
  | x :: y :: l=>simp [retV]
theorem vm_out {P:Program} {fn:Func} {E:Env} {a:Act} {w:World} {post:Ending→World→Prop} (hS:St fn.ntmps E a) (v:Value)
  (h:∀ g,vmL (vmT P (fun _=>0) (E++envG g fn.ntmps) [] fn.results.toList v)=vmR (vmT P (fun _=>0) (E++envG g fn.ntmps) [] fn.results.toList v)) (hp:post (.returned v) w):bodyPost P fn post .ret a w :=
 vm_ret (X:=⟨w,[]⟩) (M:=[]) hS ⟨Chg.refl _ _,fun k x h=>(by cases h),fun k k' x x' h=>by cases h⟩ v h hp
theorem env0_mem:∀ (l:List Value) (j:Nat) p,p ∈ env0 j l→∃ i,p.1=j+i∧l[i]?=some p.2.1
 | [],_,_,h=>by cases h
 | v :: l,j,p,h=>by
  unfold env0 at h
  rcases List.mem_cons.1 h with rfl | h
  ·exact ⟨0,rfl,rfl⟩
  ·obtain ⟨i,h1,h2⟩:=env0_mem l (j+1) p h
   exact ⟨i+1,by omega,by simpa using h2⟩
theorem vm_start {P:Program} {f:FuncId} {fn:Func} {c:Code} {w:World} {post:Ending→World→Prop} (args:List Value) (hf:P.funcs[f]?=some fn) (hb:fn.body=some c) (hsz:args.length≤fn.ntmps)
  (h:∀ a,St fn.ntmps (env0 0 args) a→c.wp P (bodyPost P fn post) a w):Calls P f args.toArray w post:=by
 refine calls_of_wp hf hb ?_
 refine h _ ⟨rfl,by simp;omega,fun p hp=>?_⟩
 obtain ⟨i,h1,h2⟩:=env0_mem args 0 p hp
 rw [Nat.zero_add] at h1
 rw [h1]
 have hi:i<args.length:=(List.getElem?_eq_some_iff.1 h2).1
 simp only [Array.getD_eq_getD_getElem?]
 rw [Array.getElem?_append_left (by simpa using hi)]
 simp [h2]
theorem vm_ptr {P:Program} {f:FuncId} {fn:Func} {c:Code} {w:World} {v:Value} (hm:P.follows .mixedOrders=true) (hf:P.funcs[f]?=some fn) (hb:fn.body=some c) (b:Nat) (t:TypeId) (cs cs':Array Value) (hB:Hc w b t cs) (args:List Value) (hsz:args.length+1≤fn.ntmps)
  (lk:List (Nat × Nat)) (ds:List Dec) (ps:List (Item P ⟨w,[b]⟩))
  (h:∀ r,vmL (vmF' lk fn c ((0,(.pointer (some ⟨(r 0).1,0,none⟩),1)) :: env0 1 args) [(0,(t,cs))] 1 r ds ps (fun _=>v) (fun _=>[(0,(t,cs'))]))=vmR (vmF' lk fn c ((0,(.pointer (some ⟨(r 0).1,0,none⟩),1)) :: env0 1 args) [(0,(t,cs))] 1 r ds ps (fun _=>v) (fun _=>[(0,(t,cs'))])):=by intro r;kernel_rfl)
  (h2:∀ r,vmSL (vmF' lk fn c ((0,(.pointer (some ⟨(r 0).1,0,none⟩),1)) :: env0 1 args) [(0,(t,cs))] 1 r ds ps (fun _=>v) (fun _=>[(0,(t,cs'))]))=vmSR (vmF' lk fn c ((0,(.pointer (some ⟨(r 0).1,0,none⟩),1)) :: env0 1 args) [(0,(t,cs))] 1 r ds ps (fun _=>v) (fun _=>[(0,(t,cs'))])):=by intro r;kernel_rfl) :
  Calls P f ((.pointer (some ⟨b,0,none⟩) :: args:List Value)).toArray w (fun e w'=>e = .returned v∧Hc w' b t cs'∧Chg [b] w w'):=by
 have hE:∀ r:Rn,(∀ k,k<1→rB r k=b)→((0,(.pointer (some ⟨b,0,none⟩),1)) :: env0 1 args:Env)=(0,(.pointer (some ⟨(r 0).1,0,none⟩),1)) :: env0 1 args:=fun r hr=>by rw [show (r 0).1=b from hr 0 (by omega)]
 have:=vm_gen (X:=⟨w,[b]⟩) hm hf hb lk ((0,(.pointer (some ⟨b,0,none⟩),1)) :: env0 1 args) [(0,(t,cs))] 1 (fun _=>b) ((.pointer (some ⟨b,0,none⟩) :: args:List Value)).toArray (fun k=>?_) (by simpa using hsz) (keysLt_all kr)
  ⟨Chg.refl _ _,fun k x h=>?_,fun k k' x x' h h' _=>?_⟩ ds ps (fun _=>v) (fun _=>[(0,(t,cs'))]) (fun r hr=>by rw [hE r hr];exact h r) (fun r hr=>by rw [hE r hr];exact h2 r)
 ·refine this.mono ?_
  rintro e w' ⟨r,hr,he,hc,ho⟩
  have h0:=(ho _ List.mem_cons_self).1
  rw [hr 0 (by omega)] at h0
  exact ⟨he,h0,hc⟩
 ·rw [env0_start]
  show envV ((0,(.pointer (some ⟨b,0,none⟩),0)) :: env0 1 args) k=_
  by_cases hk:0=k
  ·subst hk;rfl
  ·unfold envV
   rw [look_cons_ne _ _ hk,look_cons_ne _ _ hk]
 ·have:=look_mem h
  simp only [List.mem_singleton,Prod.mk.injEq] at this
  obtain ⟨rfl,rfl⟩:=this
  exact ⟨hB,.inr (by simp)⟩
 ·have h1:=look_mem h
  have h2:=look_mem h'
  simp only [List.mem_singleton,Prod.mk.injEq] at h1 h2
  omega
def tg (k:Nat) (l:Env):Env:=l.map fun p=>(p.1,(p.2.1,bif Nat.beq p.1 k then 1 else p.2.2))
theorem envV_tg (k t:Nat):∀ l:Env,envV (tg k l) t=envV l t
 | []=>rfl
 | (a,(v,g)) :: l=>by
  have ih:=envV_tg k t l
  unfold envV at ih ⊢
  by_cases h:a=t
  ·subst h
   show (match look a ((a,(v,bif Nat.beq a k then 1 else g)) :: tg k l) with | some (v,_)=>v | none=>undef)=_
   rw [look_cons_eq,look_cons_eq]
  ·show (match look t ((a,(v,bif Nat.beq a k then 1 else g)) :: tg k l) with | some (v,_)=>v | none=>undef)=_
   rw [look_cons_ne _ _ h,look_cons_ne _ _ h]
   exact ih
theorem vm_at {P:Program} {f:FuncId} {fn:Func} {c:Code} {w:World} {v:Value} (hm:P.follows .mixedOrders=true) (hf:P.funcs[f]?=some fn) (hb:fn.body=some c) (k:Nat) (A:Nat→List Value) (b:Nat) (t:TypeId) (cs cs':Array Value) (hB:Hc w b t cs) (hsz:(A b).length≤fn.ntmps)
  (lk:List (Nat × Nat)) (ds:List Dec) (ps:List (Item P ⟨w,[b]⟩))
  (h:∀ r,vmL (vmF' lk fn c (tg k (env0 0 (A (r 0).1))) [(0,(t,cs))] 1 r ds ps (fun _=>v) (fun _=>[(0,(t,cs'))]))=vmR (vmF' lk fn c (tg k (env0 0 (A (r 0).1))) [(0,(t,cs))] 1 r ds ps (fun _=>v) (fun _=>[(0,(t,cs'))])):=by intro r;kernel_rfl)
  (h2:∀ r,vmSL (vmF' lk fn c (tg k (env0 0 (A (r 0).1))) [(0,(t,cs))] 1 r ds ps (fun _=>v) (fun _=>[(0,(t,cs'))]))=vmSR (vmF' lk fn c (tg k (env0 0 (A (r 0).1))) [(0,(t,cs))] 1 r ds ps (fun _=>v) (fun _=>[(0,(t,cs'))])):=by intro r;kernel_rfl) :
  Calls P f (A b).toArray w (fun e w'=>e = .returned v∧Hc w' b t cs'∧Chg [b] w w'):=by
 have hE:∀ r:Rn,(∀ k,k<1→rB r k=b)→tg k (env0 0 (A b))=tg k (env0 0 (A (r 0).1)):=fun r hr=>by rw [show (r 0).1=b from hr 0 (by omega)]
 have:=vm_gen (X:=⟨w,[b]⟩) hm hf hb lk (tg k (env0 0 (A b))) [(0,(t,cs))] 1 (fun _=>b) (A b).toArray (fun t=>?_) (by simpa using hsz) (keysLt_all kr)
  ⟨Chg.refl _ _,fun k x h=>?_,fun k k' x x' h h' _=>?_⟩ ds ps (fun _=>v) (fun _=>[(0,(t,cs'))]) (fun r hr=>by rw [hE r hr];exact h r) (fun r hr=>by rw [hE r hr];exact h2 r)
 ·refine this.mono ?_
  rintro e w' ⟨r,hr,he,hc,ho⟩
  have h0:=(ho _ List.mem_cons_self).1
  rw [hr 0 (by omega)] at h0
  exact ⟨he,h0,hc⟩
 ·rw [env0_start,envV_tg]
 ·have:=look_mem h
  simp only [List.mem_singleton,Prod.mk.injEq] at this
  obtain ⟨rfl,rfl⟩:=this
  exact ⟨hB,.inr (by simp)⟩
 ·have h1:=look_mem h
  have h2:=look_mem h'
  simp only [List.mem_singleton,Prod.mk.injEq] at h1 h2
  omega
theorem vm_blk {P:Program} {f:FuncId} {fn:Func} {c:Code} {w:World} {v:Value} (hm:P.follows .mixedOrders=true) (hf:P.funcs[f]?=some fn) (hb:fn.body=some c) (V:Nat→Value) (b:Nat) (t:TypeId) (cs cs':Array Value) (hB:Hc w b t cs) (args:List Value) (hsz:args.length+1≤fn.ntmps)
  (lk:List (Nat × Nat)) (ds:List Dec) (ps:List (Item P ⟨w,[b]⟩))
  (h:∀ r,vmL (vmF' lk fn c ((0,(V (r 0).1,1)) :: env0 1 args) [(0,(t,cs))] 1 r ds ps (fun _=>v) (fun _=>[(0,(t,cs'))]))=vmR (vmF' lk fn c ((0,(V (r 0).1,1)) :: env0 1 args) [(0,(t,cs))] 1 r ds ps (fun _=>v) (fun _=>[(0,(t,cs'))])):=by intro r;kernel_rfl)
  (h2:∀ r,vmSL (vmF' lk fn c ((0,(V (r 0).1,1)) :: env0 1 args) [(0,(t,cs))] 1 r ds ps (fun _=>v) (fun _=>[(0,(t,cs'))]))=vmSR (vmF' lk fn c ((0,(V (r 0).1,1)) :: env0 1 args) [(0,(t,cs))] 1 r ds ps (fun _=>v) (fun _=>[(0,(t,cs'))])):=by intro r;kernel_rfl) :
  Calls P f ((V b :: args:List Value)).toArray w (fun e w'=>e = .returned v∧Hc w' b t cs'∧Chg [b] w w'):=by
 have hE:∀ r:Rn,(∀ k,k<1→rB r k=b)→((0,(V b,1)) :: env0 1 args:Env)=(0,(V (r 0).1,1)) :: env0 1 args:=fun r hr=>by rw [show (r 0).1=b from hr 0 (by omega)]
 have:=vm_gen (X:=⟨w,[b]⟩) hm hf hb lk ((0,(V b,1)) :: env0 1 args) [(0,(t,cs))] 1 (fun _=>b) ((V b :: args:List Value)).toArray (fun k=>?_) (by simpa using hsz) (keysLt_all kr)
  ⟨Chg.refl _ _,fun k x h=>?_,fun k k' x x' h h' _=>?_⟩ ds ps (fun _=>v) (fun _=>[(0,(t,cs'))]) (fun r hr=>by rw [hE r hr];exact h r) (fun r hr=>by rw [hE r hr];exact h2 r)
 ·refine this.mono ?_
  rintro e w' ⟨r,hr,he,hc,ho⟩
  have h0:=(ho _ List.mem_cons_self).1
  rw [hr 0 (by omega)] at h0
  exact ⟨he,h0,hc⟩
 ·rw [env0_start]
  show envV ((0,(V b,0)) :: env0 1 args) k=_
  by_cases hk:0=k
  ·subst hk;rfl
  ·unfold envV
   rw [look_cons_ne _ _ hk,look_cons_ne _ _ hk]
 ·have:=look_mem h
  simp only [List.mem_singleton,Prod.mk.injEq] at this
  obtain ⟨rfl,rfl⟩:=this
  exact ⟨hB,.inr (by simp)⟩
 ·have h1:=look_mem h
  have h2:=look_mem h'
  simp only [List.mem_singleton,Prod.mk.injEq] at h1 h2
  omega
theorem Chg.bl0 {w w':World} (hc:Chg [] w w'):Below w.heap.size w w':=hc.below (Nat.le_refl _) (fun x h=>by cases h)

theorem own_nil {w:World} {b:Nat} (h:(⟨w,[]⟩:Cx).Own b):w.heap.size≤b:=h.elim id (fun h=>by cases h)
theorem St.re {nt:Nat} {l l':Env} {a:Act} (h:St nt l a) (e:l'.map (fun p=>(p.1,p.2.1))=l.map (fun p=>(p.1,p.2.1))):St nt l' a :=
 ⟨h.defers,h.size,fun p hp=>by
  have:(p.1,p.2.1) ∈ l.map (fun p=>(p.1,p.2.1)):=e ▸ List.mem_map.2 ⟨p,hp,rfl⟩
  obtain ⟨q,hq,he⟩:=List.mem_map.1 this
  simp only [Prod.mk.injEq] at he
  rw [← he.1,← he.2];exact h.has q hq⟩
def flat:Code→List Code
 | .seq a b=>flat a++flat b
 | c=>[c]
theorem wpL_cat {P:Program}:∀ (l m:List Code) {Q:Exit→Act→World→Prop} {a:Act} {w:World},wpL P l (Exit.then (fun a w=>wpL P m Q a w) Q) a w→wpL P (l++m) Q a w
 | [],m,Q,a,w,h=>h
 | c :: l,m,Q,a,w,h=>wp_mono (show c.wp P (Exit.then (fun a w=>wpL P l (Exit.then (fun a w=>wpL P m Q a w) Q) a w) (Exit.then (fun a w=>wpL P m Q a w) Q)) a w from h) (fun e a w h=>then_then h (fun a w h=>wpL_cat l m h) (fun e a w hne h=>then_off hne (by cases e <;> first | exact absurd rfl hne | exact h)))
theorem wp_flat {P:Program}:∀ (c:Code) {Q:Exit→Act→World→Prop} {a:Act} {w:World},wpL P (flat c) Q a w→c.wp P Q a w:=by
 intro c
 induction c with
 | seq c d ihc ihd =>
  intro Q a w h
  refine wp_seq (ihc (wpL_mono _ (wpL_append _ _ h) (fun e a w h=>?_)))
  exact then_then h (fun a w h=>ihd h) (fun e a w hne h=>by cases e <;> first | exact absurd rfl hne | exact h)
 | _=>intro Q a w h;exact wpL_one h
theorem wp_part {P:Program} {l:List Code} (k:Nat) {Q:Exit→Act→World→Prop} {a:Act} {w:World} (h:wpL P (l.take k) (Exit.then (fun a w=>wpL P (l.drop k) Q a w) Q) a w):wpL P l Q a w:=by
 have:=wpL_cat _ _ h
 rwa [List.take_append_drop] at this
def cK {P:Program} {X:Cx} {f:FuncId} (key:Nat) (t:TypeId) (cs:Array Value) {args:Nat→Array Value} (t2:TypeId) (cs2:Nat→Array Value) (v:Nat→Nat→Value) (h:∀ b w,Chg X.L X.w0 w→Hc w b t cs→Calls P f (args b) w (fun e w'=>∃ n m,w.heap.size≤n∧e = .returned (v n m)∧Hc w' n t2 (cs2 m)∧Below w.heap.size w w')):Item P X :=
 .call ⟨f,some key,args,fun _=>(t,cs),none,fun m=>some (t2,cs2 m),fun k=>k+1,fun _ n m=>v n m,fun b w hc hk=>(h b w hc (hk rfl).2).mono (fun e w' ⟨n,m,h1,h2,h3,h4⟩=>⟨n,m,h2,fun t' c' h=>(by cases h;exact ⟨h1,h3⟩),fun _ h=>(by cases h),Chg.of_below h4 _⟩)⟩
def zc (z:Array Value) (m:Nat):List Value:=(Builtin.zeroCells z m).toList
theorem Hc.setCells {w:World} {b:Nat} {t:TypeId} {pre:List Value}:∀ {news old rest:List Value},old.length=news.length→Hc w b t (pre++old++rest).toArray→Hc (w.setCells b pre.length news) b t (pre++news++rest).toArray∧Chg [b] w (w.setCells b pre.length news)
 | [],old,rest,hl,h=>by
  obtain rfl:old = []:=List.eq_nil_of_length_eq_zero hl
  exact ⟨h,Chg.refl _ _⟩
 | v :: news,old,rest,hl,h=>by
  cases old with
  | nil=>cases hl
  | cons o old =>
   have h1:=h.set pre.length v
   have e:(pre++o :: old++rest).toArray.setIfInBounds pre.length v=(pre ++ [v]++old++rest).toArray:=by
    rw [List.setIfInBounds_toArray];simp
   rw [e] at h1
   obtain ⟨h2,h3⟩:=Hc.setCells (pre:=pre ++ [v]) (news:=news) (old:=old) (rest:=rest) (by simpa using hl) h1
   rw [List.length_append] at h2 h3
   refine ⟨?_,(Chg.setCell w b pre.length v (by simp)).trans h3⟩
   rw [show pre++v :: news++rest=pre ++ [v]++news++rest by simp]
   exact h2
theorem Hc.cell {w:World} {b:Nat} {t:TypeId} {l:List Value} (h:Hc w b t l.toArray) {j:Nat} {v:Value} (hv:l[j]?=some v):w.cell? ⟨b,j,none⟩=some v:=by
 unfold Hc at h
 simp only [World.cell?,h,Option.isSome_none]
 simpa using hv
theorem Hc.cells {w:World} {b:Nat} {t:TypeId} {cs:Array Value} (h:Hc w b t cs) {j:Nat} {v:Value} (hv:cs[j]?=some v):w.cell? ⟨b,j,none⟩=some v:=by
 unfold Hc at h
 simp only [World.cell?,h,Option.isSome_none]
 exact hv
theorem Hc.free {w:World} {b:Nat} {t:TypeId} {cs:Array Value} (h:Hc w b t cs) (j:Nat):w.frozen? ⟨b,j,none⟩=false:=by
 unfold Hc at h
 simp [World.frozen?,h]
theorem Hc.drew {w:World} {b:Nat} {t:TypeId} {cs:Array Value} (h:Hc w b t cs):Hc w.drew b t cs:=h
def RdC (w:World) (base:Option Addr) (xs:List Value):Prop:=xs = []∨∃ b,base=some ⟨b,0,none⟩∧∀ j v,xs[j]?=some v→w.cell? ⟨b,j,none⟩=some v
theorem RdC.chg {w w':World} {base:Option Addr} {xs:List Value} (h:RdC w base xs) (hc:Chg [] w w'):RdC w' base xs:=by
 rcases h with h | ⟨b,e,h⟩
 ·exact .inl h
 ·exact .inr ⟨b,e,fun j v hv=>hc.cell0 (h j v hv)⟩
theorem RdC.of {w:World} {b:Nat} {t:TypeId} {xs sp:List Value} (h:Hc w b t (xs++sp).toArray):RdC w (some ⟨b,0,none⟩) xs:=.inr ⟨b,rfl,fun j v hv=>h.cell (by
 rw [List.getElem?_append_left (List.getElem?_eq_some_iff.1 hv).1];exact hv)⟩
section
variable {P:Program}
structure SlT (P:Program) (t e:TypeId) (z:Value) (k:Nat):Prop where
 u:P.underlying t=some (.slice e)
 i:((P.info? e).map fun i=>(i.zero,i.size,Nat.ble i.bytes 100000))=some (some z,k,true)
theorem SlT.info {t e:TypeId} {z:Value} {k:Nat} (h:SlT P t e z k):∃ i,P.info? e=some i∧i.zero=some z∧i.size=k∧i.bytes≤100000:=by
 have:=h.i
 cases hi:P.info? e with
 | none=>rw [hi] at this;cases this
 | some i =>
  rw [hi] at this
  simp only [Option.map_some,Option.some.injEq,Prod.mk.injEq] at this
  exact ⟨i,rfl,this.1,this.2.1,Nat.le_of_ble_eq_true this.2.2⟩
theorem first_of {w:World} {base:Option Addr} {xs:List Value} {n c k:Nat} (h:RdC w base xs) (hl:xs.length=n * k) (hb:base=none→n=0):(Builtin.firstCells k n (.slice base n c)).run P w = .ok xs.toArray w:=by
 cases base with
 | none =>
  obtain rfl:=hb rfl
  obtain rfl:xs = []:=List.eq_nil_of_length_eq_zero (by simpa using hl)
  exact run_firstCells_none w k 0 0 c
 | some a =>
  rcases h with rfl | ⟨b,e,h⟩
  ·exact run_firstCells_some w k n a n c [] hl (fun j v hv=>by simp at hv)
  ·cases e
   exact run_firstCells_some w k n _ n c xs hl (fun j v hv=>by rw [Addr.add_lit,Nat.zero_add];exact h j v hv)
theorem src_one {t e:TypeId} {z:Value} {k:Nat} (T:SlT P t e z k) {w:World} {c:Nat} {news:List Value} (hl:news.length=k) (h1:(news.all fun u=>u.oneCell')=true) (h:Hc w c e news.toArray):Src P k t (.slice (some ⟨c,0,none⟩) 1 1) 1 news w :=
 Src.ofSlice w T.u ⟨c,0,none⟩ 1 1 news (by omega) (fun j u hu=>by rw [Addr.add_lit,Nat.zero_add];exact h.cell hu) (fun u hu=>List.all_eq_true.1 h1 u hu)
theorem app_new {t e ty:TypeId} {z:Value} {k:Nat} (T:SlT P t e z k) {w:World} (base:Option Addr) (n c d:Nat) (xs news:List Value) (hx:RdC w base xs) (hl:xs.length=n * k) (hb:base=none→n=0) (hn:news.length=k) (h1:(news.all fun u=>u.oneCell')=true) (hs:Hc w d e news.toArray) (hc:c≤n) (hN:n≤1000000) :
  ∃ m w',(Builtin.append_ #[t,t] ty #[.slice base n c,.slice (some ⟨d,0,none⟩) 1 1]).run P w = .ok (.slice (some ⟨w.heap.size,0,none⟩) (n+1) (n+1+m)) w'∧Hc w' w.heap.size e (xs++news++zc z.cells m).toArray∧Chg [] w w':=by
 obtain ⟨i,hi,hz,hk,hby⟩:=T.info
 subst hk
 have hcap:=grownCap_ge w (n+1) c e
 have hfit:Builtin.nextslicecap (n+1) c * i.bytes≤281474976710656:=by
  have:Builtin.nextslicecap (n+1) c≤2 * (n+1):=nextslicecap_le (by omega)
  have:Builtin.nextslicecap (n+1) c * i.bytes≤2000002 * 100000:=Nat.mul_le_mul (by omega) hby
  omega
 have hold:(Builtin.firstCells i.size n (.slice base n c)).run P w.drew = .ok xs.toArray w.drew:=first_of (w:=w.drew) (by
  rcases hx with h | ⟨b,e1,h⟩
  ·exact .inl h
  ·exact .inr ⟨b,e1,fun j v hv=>by simpa using h j v hv⟩) hl hb
 have hrun:=run_append_grow_src (P:=P) w t t ty e i z T.u hi hz base n c xs hold (.slice (some ⟨d,0,none⟩) 1 1) 1 news (src_one T hn h1 hs) (by omega) (by omega) hfit
 obtain ⟨m,hm⟩:∃ m,grownCap w (n+1) c e=n+1+m:=⟨grownCap w (n+1) c e - (n+1),by omega⟩
 rw [hm,Nat.add_sub_cancel_left] at hrun
 refine ⟨m,_,hrun,?_,?_⟩
 ·have h2:=heap_alloc_new w.drew (.cells ((xs++news).toArray++Builtin.zeroCells z.cells m) e)
  unfold Hc zc
  rw [show (xs++news++(Builtin.zeroCells z.cells m).toList).toArray=(xs++news).toArray++Builtin.zeroCells z.cells m by simp]
  exact h2
 ·exact ⟨rfl,rfl,rfl,by simp,fun k hk _=>by
   show (w.heap.push _)[k]?=_
   rw [Array.getElem?_push,if_neg (by omega)]⟩
theorem app_put {t e ty:TypeId} {z:Value} {k:Nat} (T:SlT P t e z k) {w:World} (b n c d:Nat) (xs old rest news:List Value) (hB:Hc w b e (xs++old++rest).toArray) (hl:xs.length=n * k) (ho:old.length=k) (hn:news.length=k) (h1:(news.all fun u=>u.oneCell')=true) (hs:Hc w d e news.toArray) (hc:n+1≤c) :
  ∃ w',(Builtin.append_ #[t,t] ty #[.slice (some ⟨b,0,none⟩) n c,.slice (some ⟨d,0,none⟩) 1 1]).run P w = .ok (.slice (some ⟨b,0,none⟩) (n+1) c) w'∧Hc w' b e (xs++news++rest).toArray∧Chg [b] w w':=by
 obtain ⟨i,hi,hz,hk,hby⟩:=T.info
 subst hk
 have hrun:=run_append_room_src (P:=P) w t t ty e i T.u hi b 0 n c (.slice (some ⟨d,0,none⟩) 1 1) 1 news (src_one T hn h1 hs) hc
  (fun j hj=>by
   rw [Nat.zero_add,← hl,hB.cell (v:=(xs++old++rest)[xs.length+j]'(by simp;omega)) (List.getElem?_eq_getElem _)];rfl)
  (fun j _=>hB.free _)
 rw [Nat.zero_add,← hl] at hrun
 obtain ⟨h2,h3⟩:=Hc.setCells (news:=news) (old:=old) (rest:=rest) (by omega) hB
 exact ⟨_,hrun,h2,h3⟩
def lAN {X:Cx} {t e:TypeId} {z:Value} {k:Nat} (T:SlT P t e z k) (k2:Nat) (base:Option Addr) (n c:Nat) (xs news:List Value) (hx:∀ w,Chg X.L X.w0 w→RdC w base xs) (hl:xs.length=n * k) (hb:base=none→n=0) (hn:news.length=k) (h1:(news.all fun u=>u.oneCell')=true) (hc:c≤n) (hN:n≤1000000):Item P X :=
 .two ⟨none,k2,(0,#[]),(e,news.toArray),fun _ d=>(do pure (.value (← Builtin.append_ #[t,t] t #[.slice base n c,.slice (some ⟨d,0,none⟩) 1 1]))),none,fun m=>some (e,(xs++news++zc z.cells m).toArray),fun k=>k+1,fun _ j m=>.slice (some ⟨j,0,none⟩) (n+1) (n+1+m),fun b d w hC _ hd=>by
  obtain ⟨m,w',h2,h3,h4⟩:=app_new (ty:=t) T base n c d xs news (hx w hC) hl hb hn h1 hd hc hN
  exact ⟨w.heap.size,m,.value (.slice (some ⟨w.heap.size,0,none⟩) (n+1) (n+1+m)),w',by simp [h2],rfl,fun t' c' h=>(by cases h;exact ⟨Nat.le_refl _,h3⟩),fun _ h=>(by cases h),h4⟩⟩
def lAF {X:Cx} {t e:TypeId} {z:Value} {k:Nat} (T:SlT P t e z k) (k1 k2:Nat) (n c:Nat) (xs sp news:List Value) (hl:xs.length=n * k) (hn:news.length=k) (h1:(news.all fun u=>u.oneCell')=true) (hc:c≤n) (hN:n≤1000000):Item P X :=
 .two ⟨some k1,k2,(e,(xs++sp).toArray),(e,news.toArray),fun b d=>(do pure (.value (← Builtin.append_ #[t,t] t #[.slice (some ⟨b,0,none⟩) n c,.slice (some ⟨d,0,none⟩) 1 1]))),none,fun m=>some (e,(xs++news++zc z.cells m).toArray),fun k=>k+1,fun _ j m=>.slice (some ⟨j,0,none⟩) (n+1) (n+1+m),fun b d w hC hB hd=>by
  obtain ⟨m,w',h2,h3,h4⟩:=app_new (ty:=t) T (some ⟨b,0,none⟩) n c d xs news (RdC.of (hB rfl).2) hl (fun h=>by cases h) hn h1 hd hc hN
  exact ⟨w.heap.size,m,.value (.slice (some ⟨w.heap.size,0,none⟩) (n+1) (n+1+m)),w',by simp [h2],rfl,fun t' c' h=>(by cases h;exact ⟨Nat.le_refl _,h3⟩),fun _ h=>(by cases h),h4⟩⟩
def lAR {X:Cx} {t e:TypeId} {z:Value} {k:Nat} (T:SlT P t e z k) (k1 k2:Nat) (n c:Nat) (xs old rest news:List Value) (hl:xs.length=n * k) (ho:old.length=k) (hn:news.length=k) (h1:(news.all fun u=>u.oneCell')=true) (hc:n+1≤c):Item P X :=
 .two ⟨some k1,k2,(e,(xs++old++rest).toArray),(e,news.toArray),fun b d=>(do pure (.value (← Builtin.append_ #[t,t] t #[.slice (some ⟨b,0,none⟩) n c,.slice (some ⟨d,0,none⟩) 1 1]))),some (xs++news++rest).toArray,fun _=>none,fun _=>k1+1,fun b _ _=>.slice (some ⟨b,0,none⟩) (n+1) c,fun b d w hC hB hd=>by
  obtain ⟨w',h2,h3,h4⟩:=app_put (ty:=t) T b n c d xs old rest news (hB rfl).2 hl ho hn h1 hd hc
  exact ⟨0,0,.value (.slice (some ⟨b,0,none⟩) (n+1) c),w',by simp [h2],rfl,fun _ _ h=>(by cases h),fun g hg=>(by cases hg;exact h3),h4⟩⟩
end

theorem str_size (l:List UInt8):(ByteArray.mk l.toArray).size=l.length:=by simp [ByteArray.size]
abbrev sLt (a b:List UInt8):Bool:=Op.bytesLess (ByteArray.mk a.toArray).toList (ByteArray.mk b.toArray).toList
theorem byte_run (s:ByteArray) (k:Nat) (h:k<s.size) (w:World):(Instr.index 9 (.string s) (.int .i64 k)).run Tryz.prog w = .ok (.int .u8 ((s[k].toNat:Nat):Int)) w:=by
 go_simp
theorem byte_l (l:List UInt8) (n:Nat) (h:n<l.length) (w:World):(Instr.index 9 (.string ⟨l.toArray⟩) (.int .i64 (n:Int))).run Tryz.prog w = .ok (.int .u8 ((l[n].toNat:Nat):Int)) w:=by
 have h3:(ByteArray.mk l.toArray).size=l.length:=by simp [ByteArray.size]
 exact byte_run ⟨l.toArray⟩ n (by omega) w
theorem str_beq (a b:List UInt8):((ByteArray.mk a.toArray).toList == (ByteArray.mk b.toArray).toList)=(a == b):=by
 rw [ByteArray.toList_eq,ByteArray.toList_eq]
theorem str_nil (a:List UInt8):((ByteArray.mk a.toArray).toList == (ByteArray.mk #[]).toList)=a.isEmpty:=by
 rw [show (ByteArray.mk #[])=(ByteArray.mk ([]:List UInt8).toArray) from rfl,str_beq]
 cases a <;> rfl
end Go.Proofs.YtlhddcingeneaaaGreatDoor
