/- An abstract machine for closed runs and for walks, proved sound against the model: part 5 of 6. No conditions. -/
import Derived.Test.YtbkijjplgkojcaaGreatDoorMach4
import Derived.Shelf.SortM.Plain
import Derived.Shelf.SortM.SortNone
import Derived.Shelf.SlSortCmp.NoneTotal
import Derived.Shelf.SlicesG.CompactI
import Derived.Lib.QuietBelow

namespace Go.Ev
open Go
inductive D:Type 1
 | fin
 | abs
 | go (n:Nat) (d:D)
 | val (v:AV) (d:D)
 | opv (v:AV) (h:AHeap) (d:D)
 | elem (x:AV) (d:D)
 | app (d:D)
 | pk (w:Bool) (d:D)
 | efd (v:AV) (h:AHeap) (d:D)
 | efx (same:Bool) (v:AV) (h:AHeap) (d:D)
 | look (v:AV) (d:D)
 | upd (es:List AEnt) (c:Nat) (d:D)
 | nz (t:Nat) (a b:D)
 | slc (d:D)
 | slp (ys:List AV) (d:D)
 | apx (ys:List AV) (d:D)
 | apl (d:D)
 | pure (v:AV) (d:D)
 | asl (u:AV) (d:D)
 | rix (d:D)
 | rld (x:AV) (d:D)
 | rst (x:AV) (xs:List AV) (d:D)
 | eff (Y:Type) (r:Y→AV) (hp:Y→AHeap) (I:Y→Prop) (d:Y→D)
 | tt (d:D)
 | ff (d:D)
 | br (a b:D)
 | le (t:Nat) (u:AV) (d:D)
 | frz (k:Nat) (ts:List Nat) (d:D)
 | fsl (k:Nat) (ts:List Nat) (t:Nat) (ys:List AV) (d:D)
 | ren (ids pl ts:List Nat) (d:D)
 | obj (i:Nat) (o:AObj) (d:D)
 | cs (T:Type) (l:List T) (a:D) (b:T→List T→D)
 | bs (t:Bool) (a b:D)
 | join (X:Type) (ts:List Nat) (S:X→List AV × List AObj) (I:X→Prop) (d:D) (d':X→D)
 | loop (X:Type) (ts:List Nat) (S:X→List AV × List AObj) (I:X→Prop) (m:X→Nat) (x0:X) (d:X→D)
 | loop2 (X Y:Type) (ts:List Nat) (S:X→List AV × List AObj) (S':Y→List AV × List AObj) (I:X→Prop) (I':Y→Prop) (m:X→Nat) (m':Y→Nat) (x0:X ⊕ Y) (d:X→D) (d':Y→D)
noncomputable section
def nx (n:Nat) (d:D):D:=match n with | 0=>d | m+1=> .go m d
inductive Gd where
 | yes | no | sym (b want:Bool) | bad
def gdOf (A:Fr):Option (Option Tmp × Bool)→Gd
 | none=> .yes
 | some (some d,want)=>match A.get d with
  | some (.bool b)=> .sym b want
  | some (.tuple [])=> .no
  | _=> .bad
 | some (none,_)=> .no
def pickW (want:Bool) (a b:Prop):Prop:=match want with | true=>a | false=>b
def WPg (g:Gd) (d:D) (y n:D→Prop):Prop:=
 match g with
 | .yes=>y d
 | .no=>n d
 | .bad=>False
 | .sym b want=>match d with
  | .tt d'=>b=true∧pickW want (y d') (n d')
  | .ff d'=>b=false∧pickW want (n d') (y d')
  | .br d1 d2=>(b=true→pickW want (y d1) (n d1))∧(b=false→pickW want (n d2) (y d2))
  | d=>match b with | true=>pickW want (y d) (n d) | false=>pickW want (n d) (y d)
def putK (A:Fr) (dst:Option Tmp) (v:AV) (K:Fr→Prop):Prop:=match putA A dst v with | some A'=>K A' | none=>False
def bareThen (r:Option ARes) (K:AV→AHeap→Prop):Prop:=match r with | some (.val v h)=>K v h | _=>False
theorem bareThen_ok {r:Option ARes} {K:AV→AHeap→Prop} (h:bareThen r K) : ∃ v h1,r=some (.val v h1)∧K v h1:=by
 unfold bareThen at h
 split at h
 ·rename_i v h1;exact ⟨v,h1,rfl,h⟩
 ·exact h.elim
def callThen (r:Option ARes) (K:FuncId→List AV→Prop):Prop:=match r with | some (.call f args)=>K f args | _=>False
def lsOf:Option AV→Option (List AV)
 | some (.ls xs)=>some xs
 | some (.ps xs _)=>some xs
 | _=>none
def ixOf:Option AV→Option Nat
 | some v=>natOf v
 | none=>none
def elemR (P:Program) (G:Env) (op:Op) (A:Fr):Option (List AV × Nat × Nat):=match op with
 | .indexAddr t x i=>match P.underlying t with
  | some (.slice e)=>match szOf P e with
   | some (s+1)=>match lsOf ((opd G x).run A),ixOf ((opd G i).run A) with
    | some xs,some k=>some (xs,k,s+1)
    | _,_=>none
   | _=>none
  | _=>none
 | _=>none
def elemThen (r:Option (List AV × Nat × Nat)) (x:AV) (K:Prop):Prop:=match r with
 | some (xs,i,s)=>match Nat.beq x.cells.length s with | true=>nth xs i=some x∧K | false=>False
 | none=>False
def pkR (G:Env) (w:Bool) (op:Op) (A:Fr):Option (Bool × AV):=match op with
 | .pick c a b=>match (opd G c).run A with
  | some (.bool t)=>match w with
   | true=>match (opd G a).run A with | some v=>some (t,v) | none=>none
   | false=>match (opd G b).run A with | some v=>some (t,v) | none=>none
  | _=>none
 | _=>none
def pkThen (w:Bool) (r:Option (Bool × AV)) (K:AV→Prop):Prop:=match r with
 | some (t,v)=>t=w∧K v
 | none=>False
structure Look where
 ag:Bool
 sz:Nat
 lv:List (Nat × Nat)
 z:Option AV
 ok:Bool
 id:Nat
 k:AV
 v:AV
def lookOf (P:Program) (G:Env) (op:Op) (A:Fr):Option Look:=match op with
 | .lookup t m k ok=>match P.underlying t with
  | some (.map kt e)=>match isAggB P kt,szOf P kt,leaves P 10 kt 0 with
   | some ag,some sz,some lv=>match (opd G m).run A,(opd G k).run A with
    | some (.map id),some k=>match keyR ag sz k with | true=>some ⟨ag,sz,lv,zeroA P e,ok,id,k,undefA⟩ | false=>none
    | _,_=>none
   | _,_,_=>none
  | _=>none
 | .mapUpdate t m k x | .insert t m k x=>match P.underlying t with
  | some (.map kt _)=>match isAggB P kt,szOf P kt,leaves P 10 kt 0 with
   | some ag,some sz,some lv=>match (opd G m).run A,(opd G k).run A,(opd G x).run A with
    | some (.map id),some k,some x=>match keyR ag sz k with | true=>some ⟨ag,sz,lv,none,false,id,k,x⟩ | false=>none
    | _,_,_=>none
   | _,_,_=>none
  | _=>none
 | _=>none
def isLook:Op→Bool
 | .lookup ..=>true
 | _=>false
def isUpd:Op→Bool
 | .mapUpdate .. | .insert ..=>true
 | _=>false
def lookThen (op:Op) (h:AHeap) (r:Option Look) (v:AV) (K:Prop):Prop:=match isLook op,r with
 | true,some l=>match h.get l.id with
  | some (.map es _)=>lookupE l.z l.ok (findEnt l.ag l.sz l.lv l.k es 0)=some v∧K
  | _=>False
 | _,_=>False
def updE (es:List AEnt) (clock:Nat) (k v:AV):Option (Option (Nat × AEnt))→Option (List AEnt × Nat)
 | some (some (i,en))=>match keySame k en.key with | true=>some (es.set i { en with val:=v },clock) | false=>none
 | some none=>some (es++ [{ key:=k,val:=v,born:=clock }],clock+1)
 | none=>none
def updThen (op:Op) (h:AHeap) (r:Option Look) (es':List AEnt) (c':Nat) (K:AHeap→Prop):Prop:=match isUpd op,r with
 | true,some l=>match h.get l.id with
  | some (.map es c)=>updE es c l.k l.v (findEnt l.ag l.sz l.lv l.k es 0)=some (es',c')∧K (h.put l.id (.map es' c'))
  | _=>False
 | _,_=>False
structure App where
 id:Nat
 ep:Nat
 len:Nat
 new:List AV
 sz:Nat
 b:Nat
def appV (h:AHeap) (sz b:Nat):Option AV→Option AV→Option App
 | some (.slice id ep 0 len none),some x=>match srcR h x with
  | some (y::ys)=>match fits sz (y::ys) with | true=>some ⟨id,ep,len,y::ys,sz,b⟩ | false=>none
  | _=>none
 | _,_=>none
def appOf (P:Program) (G:Env) (op:Op) (A:Fr) (h:AHeap):Option App:=match op with
 | .call { callee:= .builtin .append,args,argTypes }=>match args.toList with
  | [s,x]=>match (argTypes[0]?).bind (elemOfSlice P),(argTypes[1]?).bind P.underlying with
   | some e,some (.slice _)=>match P.info? e with
    | some i=>match i.size,zeroA P e with
     | sz+1,some z=>match Nat.beq z.cells.length (sz+1) with
      | true=>appV h (sz+1) i.bytes ((opd G s).run A) ((opd G x).run A)
      | false=>none
     | _,_=>none
    | none=>none
   | _,_=>none
  | _=>none
 | _=>none
def appThen (h:AHeap) (a:Option App) (K:AV→AHeap→Prop):Prop:=match a with
 | some a=>match h.get a.id with
  | some (.row sz true ep xs)=>match Nat.beq sz a.sz with
   | true=>(a.ep=ep∧a.len=xs.length∧small (a.len+a.new.length) a.b=true)∧K (.slice a.id (a.ep+1) 0 (a.len+a.new.length) none) (h.put a.id (.row sz true (ep+1) (xs++a.new)))
   | false=>False
  | _=>False
 | none=>False
structure Apl where
 s:AV
 ys:List AV
 sz:Nat
 b:Nat
def aplV (h:AHeap) (sz b:Nat):Option AV→Option AV→Option Apl
 | some s,some x=>match srcR h x with
  | some ys=>some ⟨s,ys,sz,b⟩
  | none=>none
 | _,_=>none
def aplOf (P:Program) (G:Env) (op:Op) (A:Fr) (h:AHeap):Option Apl:=match op with
 | .call { callee:= .builtin .append,args,argTypes }=>match args.toList with
  | [s,x]=>match (argTypes[0]?).bind (elemOfSlice P),(argTypes[1]?).bind P.underlying with
   | some e,some (.slice _)=>match P.info? e with
    | some i=>match i.size,zeroA P e with
     | sz+1,some z=>match Nat.beq z.cells.length (sz+1) with
      | true=>aplV h (sz+1) i.bytes ((opd G s).run A) ((opd G x).run A)
      | false=>none
     | _,_=>none
    | none=>none
   | _,_=>none
  | _=>none
 | _=>none
def aplThen (h:AHeap) (a:Option Apl) (K:AV→AHeap→Prop):Prop:=match a with
 | some a=>(a.ys≠ []∧fits a.sz a.ys=true)∧match a.s with
  | .nils=>small a.ys.length a.b=true∧K (.slice h.n 0 0 a.ys.length none) (h.push (.row a.sz true 0 a.ys))
  | .ps [] true=>small a.ys.length a.b=true∧K (.slice h.n 0 0 a.ys.length none) (h.push (.row a.sz true 0 a.ys))
  | .ps (z::zs) true=>(small ((z::zs).length+a.ys.length) a.b=true∧fits a.sz (z::zs)=true)∧K (.slice h.n 0 0 (z::zs++a.ys).length none) (h.push (.row a.sz true 0 (z::zs++a.ys)))
  | .slice id ep 0 len none=>match h.get id with
   | some (.row sz true ep' xs)=>match Nat.beq sz a.sz with
    | true=>(ep=ep'∧len=xs.length∧small (len+a.ys.length) a.b=true)∧K (.slice id (ep+1) 0 (len+a.ys.length) none) (h.put id (.row sz true (ep+1) (xs++a.ys)))
    | false=>False
   | _=>False
  | _=>False
 | none=>False
def aplThenX (h:AHeap) (a:Option Apl) (xs':List AV) (K:AV→AHeap→Prop):Prop:=match a with
 | some a=>(a.ys≠ []∧fits a.sz a.ys=true)∧match a.s with
  | .nils=>(a.ys=xs'∧small a.ys.length a.b=true)∧K (.slice h.n 0 0 a.ys.length none) (h.push (.row a.sz true 0 xs'))
  | .ps [] true=>(a.ys=xs'∧small a.ys.length a.b=true)∧K (.slice h.n 0 0 a.ys.length none) (h.push (.row a.sz true 0 xs'))
  | .ps (z::zs) true=>((z::zs++a.ys=xs'∧small ((z::zs).length+a.ys.length) a.b=true)∧fits a.sz (z::zs)=true)∧K (.slice h.n 0 0 xs'.length none) (h.push (.row a.sz true 0 xs'))
  | .slice id ep 0 len none=>match h.get id with
   | some (.row sz true ep' xs)=>match Nat.beq sz a.sz with
    | true=>((ep=ep'∧len=xs.length∧small (len+a.ys.length) a.b=true)∧xs++a.ys=xs')∧K (.slice id (ep+1) 0 (len+a.ys.length) none) (h.put id (.row sz true (ep+1) xs'))
    | false=>False
   | _=>False
  | _=>False
 | none=>False
theorem aplX {h:AHeap} {a:Option Apl} {xs':List AV} {K:AV→AHeap→Prop} (e:aplThenX h a xs' K):aplThen h a K:=by
 cases a with
 | none=>exact e.elim
 | some a=>
  obtain ⟨s,ys,sz,b⟩:=a
  obtain ⟨h1,e⟩:=e
  refine ⟨h1,?_⟩
  simp only [] at e ⊢
  split at e
  ·obtain ⟨⟨rfl,h3⟩,h4⟩:=e;exact ⟨h3,h4⟩
  ·obtain ⟨⟨rfl,h3⟩,h4⟩:=e;exact ⟨h3,h4⟩
  ·obtain ⟨⟨⟨rfl,h3⟩,h4⟩,h5⟩:=e;exact ⟨⟨h3,h4⟩,h5⟩
  ·split at e
   ·rename_i hg
    try simp only [hg]
    split at e
    ·rename_i hb
     try simp only [hb]
     obtain ⟨⟨h3,rfl⟩,h4⟩:=e;exact ⟨h3,h4⟩
    ·exact e.elim
   ·exact e.elim
  ·exact e.elim
structure Rix where
 id:Nat
 ep:Nat
 ep':Nat
 off:Nat
 i:Nat
 len:Nat
def rixOf (P:Program) (G:Env) (op:Op) (A:Fr) (h:AHeap):Option Rix:=match op with
 | .indexAddr t x i=>match P.underlying t with
  | some (.slice e)=>match szOf P e with
   | some (s+1)=>match (opd G x).run A,ixOf ((opd G i).run A) with
    | some (.slice id ep off len _),some k=>match h.get id with
     | some (.row sz _ ep' _)=>match Nat.beq sz (s+1) with | true=>some ⟨id,ep,ep',off,k,len⟩ | false=>none
     | _=>none
    | _,_=>none
   | _=>none
  | _=>none
 | _=>none
def addO (off i:Nat):Nat:=match off with | 0=>i | k+1=>(k+1)+i
def rixThen (r:Option Rix) (K:AV→Prop):Prop:=match r with
 | some q=>(q.ep=q.ep'∧q.i<q.len)∧K (.ptr q.id q.ep (addO q.off q.i) 0)
 | none=>False
structure Slc where
 id:Nat
 ep:Nat
 ep':Nat
 off:Nat
 lo:Nat
 hi:Nat
 n:Nat
def subO (h l:Nat):Nat:=match l with | 0=>h | k+1=>h - (k+1)
def natO (G:Env) (A:Fr) (d:Nat):Option Operand→Option Nat
 | none=>some d
 | some x=>ixOf ((opd G x).run A)
def slcOf (P:Program) (G:Env) (op:Op) (A:Fr) (h:AHeap):Option Slc:=match op with
 | .slice t x lo hi none=>match P.underlying t with
  | some (.slice e)=>match szOf P e with
   | some (s+1)=>match (opd G x).run A with
    | some (.slice id ep off len none)=>match natO G A 0 lo,natO G A len hi,h.get id with
     | some l,some hh,some (.row sz _ ep' xs)=>match Nat.beq sz (s+1) with | true=>some ⟨id,ep,ep',off,l,hh,xs.length⟩ | false=>none
     | _,_,_=>none
    | _=>none
   | _=>none
  | _=>none
 | _=>none
def slcThen (r:Option Slc) (K:AV→Prop):Prop:=match r with
 | some q=>(q.ep=q.ep'∧q.lo≤q.hi∧addO q.off q.hi≤q.n)∧K (.slice q.id q.ep (addO q.off q.lo) (subO q.hi q.lo) none)
 | none=>False
structure Slp where
 xs:List AV
 sz:Nat
 lo:Nat
 hi:Nat
def slpOf (P:Program) (G:Env) (op:Op) (A:Fr):Option Slp:=match op with
 | .slice t x lo hi none=>match P.underlying t with
  | some (.slice e)=>match szOf P e with
   | some (s+1)=>match (opd G x).run A with
    | some (.ls xs)=>match natO G A 0 lo,natO G A xs.length hi with
     | some l,some hh=>some ⟨xs,s+1,l,hh⟩
     | _,_=>none
    | _=>none
   | _=>none
  | _=>none
 | _=>none
def slpThen (r:Option Slp) (ys:List AV) (K:AV→Prop):Prop:=match r with
 | some q=>(headSz q.sz q.xs=true∧(q.lo≤q.hi∧q.hi≤q.xs.length)∧(q.xs.take q.hi).drop q.lo=ys)∧K (.ls ys)
 | none=>False
structure Rld where
 ep:Nat
 ep':Nat
 xs:List AV
 i:Nat
 off:Nat
 ag:Bool
 n:Nat
def rldOf (P:Program) (G:Env) (op:Op) (A:Fr) (h:AHeap):Option Rld:=match op with
 | .load t a=>match isAggB P t,szOf P t with
  | some ag,some n=>match (opd G a).run A with
   | some (.ptr id ep i off)=>match h.get id with
    | some (.row _ _ ep' xs)=>some ⟨ep,ep',xs,i,off,ag,n⟩
    | _=>none
   | _=>none
  | _,_=>none
 | _=>none
def rldThen (r:Option Rld) (x:AV) (K:AV→Prop):Prop:=match r with
 | some q=>match partR q.ag q.n x.cells q.off with
  | some v=>(q.ep=q.ep'∧nth q.xs q.i=some x)∧K v
  | none=>False
 | none=>False
structure Rst where
 id:Nat
 ep:Nat
 ep':Nat
 sz:Nat
 op:Bool
 xs:List AV
 i:Nat
 off:Nat
 v:AV
def rstOf (P:Program) (G:Env) (op:Op) (A:Fr) (h:AHeap):Option Rst:=match op with
 | .store t a x=>match szOf P t with
  | some n=>match (opd G a).run A,(opd G x).run A with
   | some (.ptr id ep i off),some v=>match h.get id with
    | some (.row sz op ep' xs)=>match Nat.beq v.cells.length n && flatB v with
     | true=>some ⟨id,ep,ep',sz,op,xs,i,off,v⟩
     | false=>none
    | _=>none
   | _,_=>none
  | none=>none
 | _=>none
def rstThen (h:AHeap) (r:Option Rst) (x:AV) (xs':List AV) (K:AHeap→Prop):Prop:=match r with
 | some q=>match putElem x q.off q.v with
  | some y=>(q.ep=q.ep'∧nth q.xs q.i=some x∧q.xs.set q.i y=xs')∧K (h.put q.id (.row q.sz q.op q.ep' xs'))
  | none=>False
 | none=>False
def Nx {X:Type} (I:X→Prop) (m:X→Nat) (S:X→List AV × List AObj) (x:X) (p:List AV × List AObj):Prop:=∃ y,I y∧m y<m x∧p=S y
def stL (n:Nat) (ts:List Nat) (p:List AV × List AObj):St:=⟨mkFr n (ts.zip p.1),mkH p.2⟩
section
variable (P : Program) (G : Env) (call : Caller) (m : Nat)
def cleanP (h:AHeap) (n:Nat):Nat→Prop
 | 0=>True
 | k+1=>match h.get k with
  | some o=>Nat.ble o.top n=true∧cleanP h n k
  | none=>cleanP h n k
def renP (h:AHeap) (ids pl:List Nat):List Nat→(List AObj→Prop)→Prop
 | [],K=>K []
 | i::r,K=>match h.get i with
  | some o=>match hasId i pl with
   | true=>o.top=0∧renP h ids pl r fun L=>K (o::L)
   | false=>match withinO ids o with
    | true=>renP h ids pl r fun L=>K (renO (fun i=>posOf i ids 0) o::L)
    | false=>False
  | none=>False
def pre:D→St→(D→St→Prop)→Prop
 | .le t u d,s,K=>match s.tmps.get t with
  | some v=>Le u v∧(match putA s.tmps (some t) u with | some A'=>pre d ⟨A',s.heap⟩ K | none=>False)
  | none=>False
 | .frz k ts d,s,K=>match Nat.ble m k && Nat.ble k s.heap.n with
  | true=>cleanP s.heap k k∧match frzL s.tmps s.heap k ts with
   | some L=>match objsAll s.heap k 0 with
    | some os=>pre d ⟨mkFr s.tmps.n L,mkH os⟩ K
    | none=>False
   | none=>False
  | false=>False
 | .fsl k ts t ys d,s,K=>match Nat.ble m k && Nat.ble k s.heap.n with
  | true=>cleanP s.heap k k∧match frzL s.tmps s.heap k ts,s.tmps.get t with
   | some L,some (.slice id ep off len cap)=>match Nat.ble k id,s.heap.get id,objsAll s.heap k 0 with
    | true,some (.row _ _ ep' xs),some os=>(ep=ep'∧(xs.drop off).take len=ys∧AV.tops ys=0)∧pre d ⟨mkFr s.tmps.n ((t, .ps ys (optB cap (some len)))::L),mkH os⟩ K
    | _,_,_=>False
   | _,_=>False
  | false=>False
 | .ren ids pl ts d,s,K=>match onceL ids && firstL ids m with
  | true=>match renL s.tmps ids ts with
   | some L=>renP s.heap ids pl ids fun os=>pre d ⟨mkFr s.tmps.n L,mkH os⟩ K
   | none=>False
  | false=>False
 | .obj i o d,s,K=>match s.heap.get i with
  | some o'=>o'=o∧pre d ⟨s.tmps,s.heap.put i o⟩ K
  | none=>False
 | .abs,_,_=>False
 | .cs _ l a b,s,K=>(l = []→pre a s K)∧(∀ w r,l=w::r→pre (b w r) s K)
 | .bs t a b,s,K=>(t=true→pre a s K)∧(t=false→pre b s K)
 | d,s,K=>K d s
def WPop (o:Oper) (d:D) (s:St) (K:D→St→Prop):Prop:=
 match d with
 | .go n d'=>match behind call s.heap ((opR P G o.op).run s.tmps s.heap) with
  | some (v,h')=>putK s.tmps o.dst v fun A=>K (nx n d') ⟨A,h'⟩
  | none=>False
 | .opv v h' d'=>(opR P G o.op).run s.tmps s.heap=some (.val v h')∧putK s.tmps o.dst v fun A=>K d' ⟨A,h'⟩
 | .val v d'=>(opR P G o.op).run s.tmps s.heap=some (.val v s.heap)∧putK s.tmps o.dst v fun A=>K d' ⟨A,s.heap⟩
 | .elem x d'=>elemThen (elemR P G o.op s.tmps) x (putK s.tmps o.dst (.pptr [x] 0 0) fun A=>K d' ⟨A,s.heap⟩)
 | .efd v h' d'=>callThen ((opR P G o.op).run s.tmps s.heap) fun f args=>HCall P G f args s.heap (fun v1 h1=>v1=v∧h1=h')∧putK s.tmps o.dst v fun A=>K d' ⟨A,h'⟩
 | .look v d'=>lookThen o.op s.heap (lookOf P G o.op s.tmps) v (putK s.tmps o.dst v fun A=>K d' ⟨A,s.heap⟩)
 | .upd es c d'=>updThen o.op s.heap (lookOf P G o.op s.tmps) es c fun h'=>putK s.tmps o.dst undefA fun A=>K d' ⟨A,h'⟩
 | .pk w d'=>pkThen w (pkR G w o.op s.tmps) fun v=>putK s.tmps o.dst v fun A=>K d' ⟨A,s.heap⟩
 | .app d'=>appThen s.heap (appOf P G o.op s.tmps s.heap) fun v h'=>putK s.tmps o.dst v fun A=>K d' ⟨A,h'⟩
 | .pure v d'=>callThen ((opR P G o.op).run s.tmps s.heap) fun f args=>HPure P G f args v∧putK s.tmps o.dst v fun A=>K d' ⟨A,s.heap⟩
 | .rix d'=>rixThen (rixOf P G o.op s.tmps s.heap) fun v=>putK s.tmps o.dst v fun A=>K d' ⟨A,s.heap⟩
 | .apl d'=>aplThen s.heap (aplOf P G o.op s.tmps s.heap) fun v h'=>putK s.tmps o.dst v fun A=>K d' ⟨A,h'⟩
 | .slc d'=>slcThen (slcOf P G o.op s.tmps s.heap) fun v=>putK s.tmps o.dst v fun A=>K d' ⟨A,s.heap⟩
 | .slp ys d'=>slpThen (slpOf P G o.op s.tmps) ys fun v=>putK s.tmps o.dst v fun A=>K d' ⟨A,s.heap⟩
 | .rld x d'=>rldThen (rldOf P G o.op s.tmps s.heap) x fun v=>putK s.tmps o.dst v fun A=>K d' ⟨A,s.heap⟩
 | .rst x xs d'=>rstThen s.heap (rstOf P G o.op s.tmps s.heap) x xs fun h'=>putK s.tmps o.dst undefA fun A=>K d' ⟨A,h'⟩
 | .eff _ r hp I d'=>callThen ((opR P G o.op).run s.tmps s.heap) fun f args=>
  HCall P G f args s.heap (fun v h'=>∃ y,I y∧v=r y∧h'=hp y)∧∀ y,I y→putK s.tmps o.dst (r y) fun A=>K (d' y) ⟨A,hp y⟩
 | _=>False
def nzOf (s:St) (t:Nat) (K0 K1:St→Prop):Prop:=match s.tmps.get t with
 | some (.ls xs)=>(xs = []→putK s.tmps (some t) .nils fun A=>K0 ⟨A,s.heap⟩)∧putK s.tmps (some t) (.ps xs false) fun A=>K1 ⟨A,s.heap⟩
 | _=>False
def WPn (d:D) (s:St) (K:D→St→Prop):Prop:=match d with
 | .nz t a b=>nzOf s t (K a) (K b)
 | d=>K d s
def WPo (ops:Array Oper):List Oper→D→St→(D→St→Prop)→Prop
 | [],d,s,K=>K d s
 | o::r,d,s,K=>WPn d s fun d s=>pre m d s fun d s=>WPg (gdOf s.tmps (guardDst ops o)) d
  (fun d=>WPop P G call o d s fun d s=>WPo ops r d s K)
  (fun d=>putK s.tmps o.dst undefA fun A=>WPo ops r d ⟨A,s.heap⟩ K)
def dYes (F:Fr) (h:AHeap) (d:DOper):DRes:=
 match d.kind with
 | 0=>dRead F h d (idsOf F d.foot)
 | 1=>dWrite F h d (idsOf F d.foot)
 | _=>dCall call F h d
def sameP (h h':AHeap):Nat→Prop
 | 0=>True
 | k+1=>h'.get k=h.get k∧sameP h h' k
def sameIf (b:Bool) (h h':AHeap) (n:Nat):Prop:=match b with | true=>sameP h h' n | false=>True
def clash (masks:List (Nat × Nat)) (k:Nat) (r:Rec) (rs:List Rec) (p:Prop):Prop:=match noClash (maskAt masks k) r rs k with | true=>p | false=>False
def WPdo (o:Oper) (dp:DOper) (d:D) (F:Fr) (h:AHeap) (K:D→AV→AHeap→Rec→Prop):Prop:=
 match d with
 | .go n d'=>match dYes call F h dp with
  | some (v,h',rec)=>K (nx n d') v h' rec
  | none=>False
 | .asl u d'=>match dYes call F h dp with
  | some (v,h',rec)=>Le u v∧K d' u h' rec
  | none=>False
 | .rix d'=>match Nat.beq (kindOf o.op) 0 with
  | true=>rixThen (rixOf P G o.op ⟨F.n,lookFr F dp.look .nil⟩ ⟨1000000,onlyT h (idsOf F dp.foot) .nil⟩) fun v=>K d' v h (Ev.rd (idsOf F dp.foot))
  | false=>False
 | .slc d'=>match Nat.beq (kindOf o.op) 0 with
  | true=>slcThen (slcOf P G o.op ⟨F.n,lookFr F dp.look .nil⟩ ⟨1000000,onlyT h (idsOf F dp.foot) .nil⟩) fun v=>K d' v h (Ev.rd (idsOf F dp.foot))
  | false=>False
 | .rld x d'=>match Nat.beq (kindOf o.op) 0 with
  | true=>rldThen (rldOf P G o.op ⟨F.n,lookFr F dp.look .nil⟩ ⟨1000000,onlyT h (idsOf F dp.foot) .nil⟩) x fun v=>K d' v h (Ev.rd (idsOf F dp.foot))
  | false=>False
 | .rst x xs d'=>match Nat.beq (kindOf o.op) 1 with
  | true=>topsAt F h.n dp.look=true∧objsAt h h.n (idsOf F dp.foot)=true∧rstThen ⟨h.n,onlyT h (idsOf F dp.foot) .nil⟩ (rstOf P G o.op ⟨F.n,lookFr F dp.look .nil⟩ ⟨h.n,onlyT h (idsOf F dp.foot) .nil⟩) x xs fun hw=>
   match dWriteEnd h ⟨h.n,onlyT h (idsOf F dp.foot) .nil⟩ (idsOf F dp.foot) (some (.val undefA hw)) with
   | some (v,h',rec)=>K d' v h' rec
   | none=>False
  | false=>False
 | .upd es c d'=>match Nat.beq (kindOf o.op) 1 with
  | true=>topsAt F h.n dp.look=true∧objsAt h h.n (idsOf F dp.foot)=true∧updThen o.op ⟨h.n,onlyT h (idsOf F dp.foot) .nil⟩ (lookOf P G o.op ⟨F.n,lookFr F dp.look .nil⟩) es c fun hw=>
   match dWriteEnd h ⟨h.n,onlyT h (idsOf F dp.foot) .nil⟩ (idsOf F dp.foot) (some (.val undefA hw)) with
   | some (v,h',rec)=>K d' v h' rec
   | none=>False
  | false=>False
 | .apx xs d'=>match Nat.beq (kindOf o.op) 1 with
  | true=>topsAt F h.n dp.look=true∧objsAt h h.n (idsOf F dp.foot)=true∧aplThenX ⟨h.n,onlyT h (idsOf F dp.foot) .nil⟩ (aplOf P G o.op ⟨F.n,lookFr F dp.look .nil⟩ ⟨h.n,onlyT h (idsOf F dp.foot) .nil⟩) xs fun v hw=>
   match dWriteEnd h ⟨h.n,onlyT h (idsOf F dp.foot) .nil⟩ (idsOf F dp.foot) (some (.val v hw)) with
   | some (v,h',rec)=>K d' v h' rec
   | none=>False
  | false=>False
 | .app d'=>match Nat.beq (kindOf o.op) 1 with
  | true=>topsAt F h.n dp.look=true∧objsAt h h.n (idsOf F dp.foot)=true∧bareThen ((opR P G o.op).run ⟨F.n,lookFr F dp.look .nil⟩ ⟨h.n,onlyT h (idsOf F dp.foot) .nil⟩) fun v hw=>
   match dWriteEnd h ⟨h.n,onlyT h (idsOf F dp.foot) .nil⟩ (idsOf F dp.foot) (some (.val v hw)) with
   | some (v,h',rec)=>K d' v h' rec
   | none=>False
  | false=>False
 | .opv v hw d'=>match Nat.beq (kindOf o.op) 1 with
  | true=>topsAt F h.n dp.look=true∧objsAt h h.n (idsOf F dp.foot)=true∧(opR P G o.op).run ⟨F.n,lookFr F dp.look .nil⟩ ⟨h.n,onlyT h (idsOf F dp.foot) .nil⟩=some (.val v hw)∧
   match dWriteEnd h ⟨h.n,onlyT h (idsOf F dp.foot) .nil⟩ (idsOf F dp.foot) (some (.val v hw)) with
   | some (v,h',rec)=>K d' v h' rec
   | none=>False
  | false=>False
 | .val v d'=>match Nat.beq (kindOf o.op) 0 with
  | true=>(opR P G o.op).run ⟨F.n,lookFr F dp.look .nil⟩ ⟨1000000,onlyT h (idsOf F dp.foot) .nil⟩=some (.val v ⟨1000000,onlyT h (idsOf F dp.foot) .nil⟩)∧K d' v h (Ev.rd (idsOf F dp.foot))
  | false=>False
 | .elem x d'=>match Nat.beq (kindOf o.op) 0 with
  | true=>elemThen (elemR P G o.op ⟨F.n,lookFr F dp.look .nil⟩) x (K d' (.pptr [x] 0 0) h (Ev.rd (idsOf F dp.foot)))
  | false=>False
 | .efx same v h' d'=>callThen ((opR P G o.op).run ⟨F.n,lookFr F dp.look .nil⟩ h) fun f args=>match topsAt F h.n dp.look && Nat.ble h.n h'.n && (same || fewerTo h h' h.n) with
  | true=>cleanP h h.n h.n∧sameIf same h h' h.n∧HCall P G f args h (fun v1 h1=>v1=v∧h1=h')∧K d' v h' ⟨⟨true, [],h.n,h.n⟩,⟨bnot same, [],h.n,h'.n⟩⟩
  | false=>False
 | .efd v h' d'=>callThen ((opR P G o.op).run ⟨F.n,lookFr F dp.look .nil⟩ h) fun f args=>match topsAt F h.n dp.look && cleanTo h h.n h.n && Nat.ble h.n h'.n && fewerTo h h' h.n with
  | true=>HCall P G f args h (fun v1 h1=>v1=v∧h1=h')∧K d' v h' ⟨⟨true, [],h.n,h.n⟩,⟨true, [],h.n,h'.n⟩⟩
  | false=>False
 | .slp ys d'=>match Nat.beq (kindOf o.op) 0 with
  | true=>slpThen (slpOf P G o.op ⟨F.n,lookFr F dp.look .nil⟩) ys fun v=>K d' v h (Ev.rd (idsOf F dp.foot))
  | false=>False
 | .look v d'=>match Nat.beq (kindOf o.op) 0 with
  | true=>lookThen o.op ⟨1000000,onlyT h (idsOf F dp.foot) .nil⟩ (lookOf P G o.op ⟨F.n,lookFr F dp.look .nil⟩) v (K d' v h (Ev.rd (idsOf F dp.foot)))
  | false=>False
 | .pk w d'=>match Nat.beq (kindOf o.op) 0 with
  | true=>pkThen w (pkR G w o.op ⟨F.n,lookFr F dp.look .nil⟩) fun v=>K d' v h (Ev.rd (idsOf F dp.foot))
  | false=>False
 | .pure v d'=>callThen ((opR P G o.op).run ⟨F.n,lookFr F dp.look .nil⟩ h) fun f args=>match Nat.beq (AV.tops args) 0 && Nat.beq v.top 0 with
  | true=>HPure P G f args v∧K d' v h (Ev.rd [])
  | false=>False
 | .fsl _ _ _ ys d'=>bareThen ((opR P G o.op).run ⟨F.n,lookFr F dp.look .nil⟩ AHeap.none) fun v h1=>match topsAt F 0 dp.look with
  | true=>Le (.ls ys) (leave 0 0 v h1).1∧K d' (.ls ys) h (Ev.rd [])
  | false=>False
 | _=>False
def WPd (ops:Array Oper) (masks:List (Nat × Nat)):List Oper→Nat→D→Fr→AHeap→List Rec→(D→St→Prop)→Prop
 | [],_,d,F,h,_,K=>match Nat.ble h.n 1000000 with | true=>K d ⟨F,h⟩ | false=>False
 | o::r,k,d,F,h,rs,K=>WPg (gdOf ⟨F.n,lookFr F (o.looksAt ops) .nil⟩ (guardDst ops o)) d
  (fun d=>WPdo P G call o (dop P G ops o) d F h fun d v h' rec=>clash masks k rec rs (putK F o.dst v fun F'=>WPd ops masks r (k+1) d F' h' (rec::rs) K))
  (fun d=>clash masks k (Ev.rd []) rs (putK F o.dst undefA fun F'=>WPd ops masks r (k+1) d F' h (Ev.rd []::rs) K))
def WPc (v:Option AV) (d:D) (a b:D→Prop):Prop:=
 match v with
 | some (.bool t)=>match d with
  | .go n d'=>match t with | true=>a (nx n d') | false=>b (nx n d')
  | .tt d'=>t=true∧a d'
  | .ff d'=>t=false∧b d'
  | .br d1 d2=>(t=true→a d1)∧(t=false→b d2)
  | _=>False
 | _=>False
structure WC where
 run:D→St→(AExit→D→St→Prop)→Prop
def seqK (b:WC) (K:AExit→D→St→Prop) (e:AExit) (d:D) (s:St):Prop:=match e with | .normal=>b.run d s K | e=>K e d s
def joinK (n:Nat) (ts:List Nat) {X:Type} (S:X→List AV × List AObj) (I:X→Prop) (K:AExit→D→St→Prop) (e:AExit) (d:D) (s:St):Prop:=match e with
 | .normal=>pre m d s fun _ s=>match Nat.beq s.tmps.n n,getAll s.tmps ts,objsAll s.heap s.heap.n 0 with
  | true,some vs,some os=>∃ y,I y∧(vs,os)=S y
  | _,_,_=>False
 | e=>K e d s
def seqD (a b:WC) (d:D) (s:St) (K:AExit→D→St→Prop):Prop:=match d with
 | .join _ ts S I d1 d2=>a.run d1 s (joinK m s.tmps.n ts S I K)∧∀ x,I x→b.run (d2 x) (stL s.tmps.n ts (S x)) K
 | d=>a.run d s (seqK b K)
def outK (id:Nat) (K:AExit→D→St→Prop) (e:AExit) (d:D) (s:St):Prop:=match e with
 | .exit k=>match Nat.beq k id with | true=>K .normal d s | false=>K (.exit k) d s
 | e=>K e d s
def roundK (n:Nat) (ts:List Nat) {X:Type} (S:X→List AV × List AObj) (I:X→Prop) (ms:X→Nat) (x:X) (K:AExit→D→St→Prop) (e:AExit) (d:D) (s:St):Prop:=match e with
 | .normal=>pre m d s fun _ s=>match Nat.beq s.tmps.n n,getAll s.tmps ts,objsAll s.heap s.heap.n 0 with
  | true,some vs,some os=>Nx I ms S x (vs,os)
  | _,_,_=>False
 | e=>K e d s
def loopK (b:WC) (d:D) (s:St) (K:AExit→D→St→Prop):Prop:=match d with
 | .loop _ ts S I ms x0 db=>match getAll s.tmps ts,objsAll s.heap s.heap.n 0 with
  | some vs,some os=>(vs,os)=S x0∧I x0∧∀ x,I x→b.run (db x) (stL s.tmps.n ts (S x)) (roundK m s.tmps.n ts S I ms x K)
  | _,_=>False
 | .loop2 _ _ ts S S' I I' ms ms' x0 db db'=>match getAll s.tmps ts,objsAll s.heap s.heap.n 0 with
  | some vs,some os=>(vs,os)=Sum.elim S S' x0∧Sum.elim I I' x0∧
   (∀ x,I x→b.run (db x) (stL s.tmps.n ts (S x)) (roundK m s.tmps.n ts (Sum.elim S S') (Sum.elim I I') (Sum.elim ms ms') (.inl x) K))∧
   (∀ x,I' x→b.run (db' x) (stL s.tmps.n ts (S' x)) (roundK m s.tmps.n ts (Sum.elim S S') (Sum.elim I I') (Sum.elim ms ms') (.inr x) K))
  | _,_=>False
 | _=>False
def WP:Code→WC
 | .skip | .label _=>⟨fun d s K=>K .normal d s⟩
 | .region _ ops draw=>match draw with
  | false=>⟨fun d s K=>WPo P G call m ops ops.toList d s (K .normal)⟩
  | true=>⟨fun d s K=>pre m d s fun d s=>match fitDraw P G ops with
   | true=>WPd P G call ops (masksGo ops.toList 0 []) ops.toList 0 d s.tmps s.heap [] (K .normal)
   | false=>False⟩
 | .seq a b=>⟨fun d s K=>seqD m (WP a) (WP b) d s K⟩
 | .cond c a b=>⟨fun d s K=>pre m d s fun d s=>WPc ((opd G c).run s.tmps) d (fun d=>(WP a).run d s K) (fun d=>(WP b).run d s K)⟩
 | .block id b=>⟨fun d s K=>(WP b).run d s (outK id K)⟩
 | .loop b=>⟨fun d s K=>pre m d s fun d s=>loopK m (WP b) d s K⟩
 | .exit id=>⟨fun d s K=>K (.exit id) d s⟩
 | .scope b=>⟨fun d s K=>(WP b).run d s K⟩
 | .ret=>⟨fun d s K=>K .ret d s⟩
 | _=>⟨fun _ _ _=>False⟩
end
def finK (P:Program) (m:Nat) (res:List ResultVar) (Ψ:AV→AHeap→Prop) (e:AExit) (d:D) (s:St):Prop:=match e with
 | .exit _=>False
 | _=>pre m d s fun _ s=>match oneOrTuple (resultsR P res s.tmps s.heap) with
  | some u=>Ψ u s.heap
  | none=>False
end
theorem Nx.mk {X:Type} {I:X→Prop} {m:X→Nat} {S:X→List AV × List AObj} {x:X} (y:X) (h1:I y) (h2:m y<m x):Nx I m S x (S y):=⟨y,h1,h2,rfl⟩
section
variable {P : Program} {G : Env} {call : Caller} {m : Nat} {ops : Array Oper} {l : List Oper} {o : Oper} {s s' : St} {h h' : AHeap} {v : AV} {A A' F : Fr} {f : FuncId} {args : List AV} {c : Code} {n t : Nat}
theorem gdOf_yes {g:Option (Option Tmp × Bool)} (h:gdOf A g = .yes):guardR A g=some true:=by
 unfold gdOf at h
 split at h
 ·rfl
 ·split at h <;> cases h
 ·cases h
theorem gdOf_no {g:Option (Option Tmp × Bool)} (h:gdOf A g = .no):guardR A g=some false:=by
 unfold gdOf at h
 split at h
 ·cases h
 ·split at h
  ·cases h
  ·rename_i q;simp [guardR,q]
  ·cases h
 ·simp [guardR]
theorem gdOf_sym {b want:Bool} {g:Option (Option Tmp × Bool)} (h:gdOf A g = .sym b want):guardR A g=some (b == want):=by
 unfold gdOf at h
 split at h
 ·cases h
 ·split at h
  ·rename_i d w b' q
   cases h
   simp only [guardR,q]
   cases b <;> cases want <;> rfl
  ·cases h
  ·cases h
 ·cases h
theorem pickW_ok {want:Bool} {a b:Prop} {Q:Prop} (h:pickW want a b) (ha:want=true→a→Q) (hb:want=false→b→Q):Q:=by
 cases want
 ·exact hb rfl h
 ·exact ha rfl h
theorem WPg_ok {g:Option (Option Tmp × Bool)} {d:D} {y n:D→Prop} {Q:Prop} (h:WPg (gdOf A g) d y n) (hy:guardR A g=some true→∀ d,y d→Q) (hn:guardR A g=some false→∀ d,n d→Q):Q:=by
 cases hg:gdOf A g with
 | yes=>rw [hg] at h;exact hy (gdOf_yes hg) d h
 | no=>rw [hg] at h;exact hn (gdOf_no hg) d h
 | bad=>rw [hg] at h;exact h.elim
 | sym b want=>
  rw [hg] at h
  have e:=gdOf_sym hg
  have t1:b=true→∀ d,pickW want (y d) (n d)→Q:=by
   intro hb d hp
   subst hb
   refine pickW_ok hp (fun hw k=>hy (by rw [e,hw];rfl) d k) (fun hw k=>hn (by rw [e,hw];rfl) d k)
  have t2:b=false→∀ d,pickW want (n d) (y d)→Q:=by
   intro hb d hp
   subst hb
   refine pickW_ok hp (fun hw k=>hn (by rw [e,hw];rfl) d k) (fun hw k=>hy (by rw [e,hw];rfl) d k)
  cases d <;> simp only [WPg] at h
  case tt d'=>exact t1 h.1 d' h.2
  case ff d'=>exact t2 h.1 d' h.2
  case br d1 d2=>
   cases hb:b with
   | true=>exact t1 hb d1 (h.1 hb)
   | false=>exact t2 hb d2 (h.2 hb)
  all_goals
   cases hb:b with
   | true=>rw [hb] at h;exact t1 hb _ h
   | false=>rw [hb] at h;exact t2 hb _ h
theorem putK_ok {dst:Option Tmp} {K:Fr→Prop} (h:putK A dst v K) : ∃ A',putA A dst v=some A'∧K A':=by
 unfold putK at h
 split at h
 ·rename_i A' q;exact ⟨A',q,h⟩
 ·exact h.elim
theorem callThen_ok {r:Option ARes} {K:FuncId→List AV→Prop} (h:callThen r K) : ∃ f args,r=some (.call f args)∧K f args:=by
 unfold callThen at h
 split at h
 ·rename_i f args;exact ⟨f,args,rfl,h⟩
 ·exact h.elim
theorem cleanP_ok {n:Nat} : ∀ {k:Nat},cleanP h n k→cleanTo h n k=true
 | 0,_=>rfl
 | k+1,hc=>by
  simp only [cleanP] at hc
  simp only [cleanTo]
  cases hg:h.get k with
  | none=>rw [hg] at hc;exact cleanP_ok hc
  | some o=>rw [hg] at hc;simp only [hc.1];exact cleanP_ok hc.2
theorem renP_ok {ids pl:List Nat} {is:List Nat} {K:List AObj→Prop} (e:renP h ids pl is K) : ∃ os,K os∧os.length=is.length∧∀ (j:Nat) (o':AObj),os[j]? = some o'→∃ o,h.get (idAt is j)=some o∧renO (idAt ids) o'=o∧o'.top≤ids.length:=by
 induction is generalizing K with
 | nil=>exact ⟨[],e,rfl,fun j o' h=>by simp at h⟩
 | cons x r ih=>
  simp only [renP] at e
  split at e
  ·rename_i o ho
   split at e
   ·obtain ⟨h0,e⟩:=e
    obtain ⟨os,k1,k2,k3⟩:=ih e
    refine ⟨o::os,k1,by simp [k2],fun j o' hj=>?_⟩
    cases j with
    | zero=>simp at hj;subst hj;exact ⟨o,ho,renO_plain _ o h0,by omega⟩
    | succ j=>exact k3 j o' (by simpa using hj)
   ·split at e
    ·rename_i hw
     obtain ⟨os,k1,k2,k3⟩:=ih e
     refine ⟨_::os,k1,by simp [k2],fun j o' hj=>?_⟩
     cases j with
     | zero=>simp at hj;subst hj;exact ⟨o,ho,renO_back o hw⟩
     | succ j=>exact k3 j o' (by simpa using hj)
    ·exact e.elim
  ·exact e.elim
theorem pre_ok (hG:GTop G) {Q:Prop} : ∀ {d:D} {s:St} {K:D→St→Prop},s.tmps.n≤60000→pre m d s K→(∀ d' s',s'.tmps.n=s.tmps.n→Weak G (some m) s s'→K d' s'→Q)→Q:=by
 intro d
 induction d with
 | le t u d ih=>
  intro s K hn h k
  simp only [pre] at h
  split at h
  ·rename_i v hv
   obtain ⟨h1,h2⟩:=h
   split at h2
   ·rename_i A' hp
    have hn':A'.n=s.tmps.n:=by
     have hp':s.tmps.put t u=some A':=hp
     unfold Fr.put at hp'
     split at hp'
     ·simp at hp';subst hp';rfl
     ·simp at hp'
    refine ih (by show A'.n≤60000;omega) h2 fun d' s' e1 e2 e3=>k d' s' (by rw [e1];exact hn') ?_ e3
    exact Weak.trans (Weak.put (A:=s.tmps) (h:=s.heap) hn hv h1 hp) e2
   ·exact h2.elim
  ·exact h.elim
 | frz k0 ts d ih=>
  intro s K hn h k
  simp only [pre] at h
  split at h
  ·rename_i hck
   simp only [ble_iff,Bool.and_eq_true,decide_eq_true_eq] at hck
   obtain ⟨c1,c2⟩:=hck
   obtain ⟨c3,h⟩:=h
   have c3:=cleanP_ok c3
   split at h
   ·rename_i L hL
    split at h
    ·rename_i os ho
     exact ih (s:=⟨mkFr s.tmps.n L,mkH os⟩) hn h fun d' s' e1 e2 e3=>k d' s' e1 (Weak.trans (Weak.frzL hG c1 c2 c3 hL ho) e2) e3
    ·exact h.elim
   ·exact h.elim
  ·exact h.elim
 | fsl k0 ts t ys d ih=>
  intro s K hn h k
  simp only [pre] at h
  split at h
  ·rename_i hck
   simp only [ble_iff,Bool.and_eq_true,decide_eq_true_eq] at hck
   obtain ⟨c1,c2⟩:=hck
   obtain ⟨c3,h⟩:=h
   have c3:=cleanP_ok c3
   split at h
   ·rename_i L id ep off len cap hL ht
    split at h
    ·rename_i sz op ep' xs os hid hg ho
     simp only [ble_iff,decide_eq_true_eq] at hid
     obtain ⟨⟨rfl,q2,q3⟩,h⟩:=h
     exact ih (s:=⟨mkFr s.tmps.n ((t, .ps ys (optB cap (some len)))::L),mkH os⟩) hn h fun d' s' e1 e2 e3=>k d' s' e1 (Weak.trans (Weak.frzS hG c1 c2 c3 hL ho ht hid hg q2 q3) e2) e3
    ·exact h.elim
   ·exact h.elim
  ·exact h.elim
 | ren ids pl ts d ih=>
  intro s K hn h k
  simp only [pre] at h
  split at h
  ·rename_i hck
   simp only [Bool.and_eq_true] at hck
   split at h
   ·rename_i L hL
    obtain ⟨os,h,o1,o2⟩:=renP_ok (is:=ids) h
    exact ih (s:=⟨mkFr s.tmps.n L,mkH os⟩) hn h fun d' s' e1 e2 e3=>k d' s' e1 (Weak.trans (Weak.renR hG hck.1 hck.2 hL o1 o2) e2) e3
   ·exact h.elim
  ·exact h.elim
 | obj i o d ih=>
  intro s K hn h k
  simp only [pre] at h
  split at h
  ·rename_i o' ho
   obtain ⟨rfl,h⟩:=h
   have hS:SubSt ⟨s.tmps,s.heap.put i o'⟩ s:=by
    refine ⟨rfl,fun _ _ h=>h,Nat.le_refl _,fun id o hh=>?_⟩
    rcases AHeap.get_put (AHeap.get_some.1 ho).2.1 hh with ⟨rfl,rfl⟩ | ⟨_,h2⟩
    ·exact ho
    ·exact h2
   exact ih (s:=⟨s.tmps,s.heap.put i o'⟩) hn h fun d' s' e1 e2 e3=>k d' s' e1 (Weak.trans (Weak.sub hS) e2) e3
  ·exact h.elim
 | cs T l a b iha ihb=>
  intro s K hn h k
  simp only [pre] at h
  cases hl:l with
  | nil=>exact iha hn (h.1 hl) k
  | cons w r=>exact ihb w r hn (h.2 w r hl) k
 | bs t a b iha ihb=>
  intro s K hn h k
  simp only [pre] at h
  cases ht:t with
  | true=>exact iha hn (h.1 ht) k
  | false=>exact ihb hn (h.2 ht) k
 | abs=>intro s K hn h k;exact h.elim
 | fin | go _ _ _ | val _ _ _ | opv _ _ _ _ | elem _ _ _ | app _ _ | pk _ _ _ | efd _ _ _ | efx _ _ _ _ | look _ _ _ | upd _ _ _ _ | pure _ _ _ | asl _ _ _ | rix _ _ | rld _ _ _ | rst _ _ _ _ | eff _ _ _ _ _ _ | nz _ _ _ _ _ | slc _ _ | slp _ _ _ | apx _ _ _ | apl _ _ | tt _ _ | ff _ _ | br _ _ _ _ | join _ _ _ _ _ _ _ _ | loop _ _ _ _ _ _ _ _ | loop2 _ _ _ _ _ _ _ _ _ _ _ _ _ _=>
  intro s K hn h k
  exact k _ s rfl (Weak.refl s) h
theorem HCode.bounded {b:Option Nat} {Φ:AExit→St→Prop} (h:s.tmps.n≤60000→HCode P G b c s Φ):HCode P G b c s Φ:=
 fun N h0 pl0 M0 w0 a w Q hb hs hQ=>h (by rw [hs.n];exact hs.small) N h0 pl0 M0 w0 a w Q hb hs hQ
theorem HOps.bounded {b:Option Nat} {Φ:St→Prop} (h:s.tmps.n≤60000→HOps P G b ops l s Φ):HOps P G b ops l s Φ:=
 fun i N h0 pl0 M0 w0 a w Q hb hl hs hQ=>h (by rw [hs.n];exact hs.small) i N h0 pl0 M0 w0 a w Q hb hl hs hQ
theorem elemR_ok {op:Op} {xs:List AV} {i s:Nat} {x:AV} (e:elemR P G op A=some (xs,i,s)) (hx:nth xs i=some x) (hs:Nat.beq x.cells.length s=true) : ∃ xs' i',(opR P G op).run A h=some (.val (.pptr xs' i' 0) h)∧nth xs' i'=some x:=by
 unfold elemR at e
 split at e
 ·rename_i t y ix
  split at e
  ·rename_i el hu
   split at e
   ·rename_i s0 hsz
    split at e
    ·rename_i ys k hl hi
     simp only [Option.some.injEq,Prod.mk.injEq] at e
     obtain ⟨rfl,rfl,rfl⟩:=e
     refine ⟨ys,k,?_,hx⟩
     simp only [opR,hu,hsz]
     cases hv:(opd G y).run A with
     | none=>rw [hv] at hl;cases hl
     | some v=>
      cases hj:(opd G ix).run A with
      | none=>rw [hj] at hi;cases hi
      | some iv=>
       rw [hj] at hi
       have hi:natOf iv=some k:=hi
       rw [hv] at hl
       cases v <;> simp only [lsOf,Option.some.injEq,reduceCtorEq] at hl
       ·subst hl;simp only [indexAny,indexSl,hi,hx,hs,retV]
       ·subst hl;simp only [indexAny,indexSl,hi,hx,hs,retV]
    ·cases e
   ·cases e
  ·cases e
 ·cases e
theorem elemThen_ok {op:Op} {x:AV} {K:Prop} (e:elemThen (elemR P G op A) x K):(∃ xs i,(opR P G op).run A h=some (.val (.pptr xs i 0) h)∧nth xs i=some x)∧K:=by
 unfold elemThen at e
 split at e
 ·rename_i xs i s he
  split at e
  ·rename_i hs
   exact ⟨elemR_ok he e.1 hs,e.2⟩
  ·exact e.elim
 ·exact e.elim
theorem lookThen_ok {op:Op} {v:AV} {K:Prop} (e:lookThen op h (lookOf P G op A) v K):(opR P G op).run A h=some (.val v h)∧K:=by
 unfold lookThen at e
 split at e
 ·rename_i l hi hl
  split at e
  ·rename_i es c hg
   refine ⟨?_,e.2⟩
   have e1:=e.1
   cases op <;> simp only [isLook,reduceCtorEq] at hi
   rename_i t m k ok
   simp only [lookOf] at hl
   split at hl
   ·rename_i kt el hu
    split at hl
    ·rename_i ag sz lv h1 h2 h3
     split at hl
     ·rename_i id kk hm hk
      split at hl
      ·rename_i hkr
       cases hl
       simp only [opR,hu,h1,h2,h3,hm,hk,lookupR,hkr,hg,e1,retV]
      ·cases hl
     ·cases hl
    ·cases hl
   ·cases hl
  ·exact e.elim
 ·exact e.elim
theorem rixThen_ok {op:Op} {K:AV→Prop} (e:rixThen (rixOf P G op A h) K) : ∃ v,(opR P G op).run A h=some (.val v h)∧K v:=by
 unfold rixThen at e
 split at e
 ·rename_i q he
  obtain ⟨⟨e1,e2⟩,e3⟩:=e
  refine ⟨_,?_,e3⟩
  unfold rixOf at he
  split at he
  ·rename_i t x ix
   split at he
   ·rename_i el hu
    split at he
    ·rename_i s0 hsz
     split at he
     ·rename_i id ep off len c k hv hi
      split at he
      ·rename_i sz op' ep1 xs hg
       split at he
       ·rename_i hb
        cases he
        simp only at e1 e2
        subst e1
        cases hj:(opd G ix).run A with
        | none=>rw [hj] at hi;cases hi
        | some iv=>
         rw [hj] at hi
         have hi:natOf iv=some k:=hi
         have hlt:Nat.blt k len=true:=by simp only [Nat.blt,ble_iff,decide_eq_true_eq];exact e2
         have hb':(Nat.beq sz (s0+1) && Nat.beq ep ep)=true:=by simp [hb]
         have ha:addO off k=off+k:=by unfold addO;split <;> omega
         simp only [opR,hu,hsz,hv,hj,indexAny,indexSl,hi,rowOf,hg,hb',hlt,retV,ha]
       ·cases he
      ·cases he
     ·cases he
    ·cases he
   ·cases he
  ·cases he
 ·exact e.elim
theorem natO_ok {x:Option Operand} {d n:Nat} {k:Option AV→Option AV} (e:natO G A d x=some n) : ∃ w,optd G x A k=k w∧natOr d w=some n:=by
 cases x with
 | none=>exact ⟨none,rfl,e⟩
 | some x=>
  simp only [natO,ixOf] at e
  cases hx:(opd G x).run A with
  | none=>rw [hx] at e;cases e
  | some v=>rw [hx] at e;exact ⟨some v,by simp only [optd,hx],e⟩
theorem slpThen_ok {op:Op} {ys:List AV} {K:AV→Prop} (e:slpThen (slpOf P G op A) ys K) : ∃ v,(∀ h,(opR P G op).run A h=some (.val v h))∧K v:=by
 unfold slpThen at e
 split at e
 ·rename_i q he
  obtain ⟨⟨e1,⟨e2,e4⟩,e5⟩,e3⟩:=e
  refine ⟨_,fun h=>?_,e3⟩
  unfold slpOf at he
  split at he
  ·rename_i t x lo hi
   split at he
   ·rename_i el hu
    split at he
    ·rename_i s0 hsz
     split at he
     ·rename_i xs hv
      split at he
      ·rename_i l hh hl hhi
       cases he
       simp only at e1 e2 e4 e5
       subst e5
       have hc:(Nat.ble l hh && Nat.ble hh xs.length)=true:=by
        simp only [ble_iff,Bool.and_eq_true,decide_eq_true_eq];omega
       obtain ⟨w1,o1,n1⟩:=natO_ok (k:=fun lo=>optd G hi A fun hi=>optd G none A fun mx=>sliceAny (s0+1) h ((opd G x).run A) lo hi mx) hl
       obtain ⟨w2,o2,n2⟩:=natO_ok (k:=fun hi=>optd G none A fun mx=>sliceAny (s0+1) h ((opd G x).run A) w1 hi mx) hhi
       simp only [opR,hu,hsz]
       rw [o1,o2]
       simp only [optd,sliceAny,hv,sliceSl,e1,n1,n2,cutPs,hc,lsOut,retV]
      ·cases he
     ·cases he
    ·cases he
   ·cases he
  ·cases he
 ·exact e.elim
theorem slcThen_ok {op:Op} {K:AV→Prop} (e:slcThen (slcOf P G op A h) K) : ∃ v,(opR P G op).run A h=some (.val v h)∧K v:=by
 unfold slcThen at e
 split at e
 ·rename_i q he
  obtain ⟨⟨e1,e2,e4⟩,e3⟩:=e
  refine ⟨_,?_,e3⟩
  unfold slcOf at he
  split at he
  ·rename_i t x lo hi
   split at he
   ·rename_i el hu
    split at he
    ·rename_i s0 hsz
     split at he
     ·rename_i id ep off len hv
      split at he
      ·rename_i l hh sz op' ep1 xs hl hhi hg
       split at he
       ·rename_i hb
        cases he
        simp only at e1 e2 e4
        subst e1
        have ha : ∀ k,addO off k=off+k:=fun k=>by unfold addO;split <;> omega
        have hs:subO hh l=hh - l:=by unfold subO;split <;> omega
        rw [ha] at e4
        have hb':(Nat.beq sz (s0+1) && Nat.beq ep ep)=true:=by simp [hb]
        have hc:(Nat.ble l hh && Nat.ble hh (room xs.length off none))=true:=by
         simp only [room,ble_iff,Bool.and_eq_true,decide_eq_true_eq];omega
        obtain ⟨w1,o1,n1⟩:=natO_ok (k:=fun lo=>optd G hi A fun hi=>optd G none A fun mx=>sliceAny (s0+1) h ((opd G x).run A) lo hi mx) hl
        obtain ⟨w2,o2,n2⟩:=natO_ok (k:=fun hi=>optd G none A fun mx=>sliceAny (s0+1) h ((opd G x).run A) w1 hi mx) hhi
        simp only [opR,hu,hsz]
        rw [o1,o2]
        simp only [optd,sliceAny,hv,sliceSl,rowOf,hg,hb',n1,n2,cutSl,hc,retV,ha,hs]
       ·cases he
      ·cases he
     ·cases he
    ·cases he
   ·cases he
  ·cases he
 ·exact e.elim
theorem rldThen_ok {op:Op} {x:AV} {K:AV→Prop} (e:rldThen (rldOf P G op A h) x K) : ∃ v,(opR P G op).run A h=some (.val v h)∧K v:=by
 unfold rldThen at e
 split at e
 ·rename_i q he
  split at e
  ·rename_i v hp
   obtain ⟨⟨e1,e2⟩,e3⟩:=e
   refine ⟨_,?_,e3⟩
   unfold rldOf at he
   split at he
   ·rename_i t a
    split at he
    ·rename_i ag n h1 h2
     split at he
     ·rename_i id ep i off hv
      split at he
      ·rename_i sz op' ep1 xs hg
       cases he
       simp only at e1 e2 hp
       subst e1
       simp only [opR,h1,h2,hv,loadR,hg,e2,partOf,hp,retV,Nat.beq_refl]
      ·cases he
     ·cases he
    ·cases he
   ·cases he
  ·exact e.elim
 ·exact e.elim
theorem rstThen_ok {op:Op} {x:AV} {xs':List AV} {K:AHeap→Prop} (e:rstThen h (rstOf P G op A h) x xs' K) : ∃ h',(opR P G op).run A h=some (.val undefA h')∧K h':=by
 unfold rstThen at e
 split at e
 ·rename_i q he
  split at e
  ·rename_i y hp
   obtain ⟨⟨e1,e2,e4⟩,e3⟩:=e
   refine ⟨_,?_,e3⟩
   unfold rstOf at he
   split at he
   ·rename_i t a b
    split at he
    ·rename_i n h1
     split at he
     ·rename_i id ep i off v hv hb
      split at he
      ·rename_i sz op' ep1 xs hg
       split at he
       ·rename_i hf
        cases he
        simp only at e1 e2 hp e4
        subst e1
        simp only [Bool.and_eq_true] at hf
        simp only [opR,h1,hv,hb,storeR,hg,e2,hp,retU,Nat.beq_refl,hf.1,hf.2,Bool.and_self,Bool.true_and,e4]
       ·cases he
      ·cases he
     ·cases he
    ·cases he
   ·cases he
  ·exact e.elim
 ·exact e.elim
theorem updE_ok {es:List AEnt} {c:Nat} {k v:AV} {id:Nat} {r:Option (Option (Nat × AEnt))} {es':List AEnt} {c':Nat} (e:updE es c k v r=some (es',c')):updateE h id es c k v r=some (h.put id (.map es' c')):=by
 unfold updE at e
 unfold updateE
 split at e
 ·split at e
  ·rename_i hs
   cases e
   simp only [hs]
  ·cases e
 ·cases e;rfl
 ·cases e
theorem updThen_ok {op:Op} {es':List AEnt} {c':Nat} {K:AHeap→Prop} (e:updThen op h (lookOf P G op A) es' c' K) : ∃ h',(opR P G op).run A h=some (.val undefA h')∧K h':=by
 unfold updThen at e
 split at e
 ·rename_i l hi hl
  split at e
  ·rename_i es c hg
   refine ⟨_,?_,e.2⟩
   have e1:=updE_ok (h:=h) (id:=l.id) e.1
   have key : ∀ (t:TypeId) (m k x:Operand),lookOf P G (.mapUpdate t m k x) A=some l→(opR P G (.mapUpdate t m k x)).run A h=some (.val undefA (h.put l.id (.map es' c'))):=by
    intro t m k x hl
    simp only [lookOf] at hl
    split at hl
    ·rename_i kt el hu
     split at hl
     ·rename_i ag sz lv h1 h2 h3
      split at hl
      ·rename_i id kk xx hm hk hx
       split at hl
       ·rename_i hkr
        cases hl
        simp only [opR,hu,h1,h2,h3,hm,hk,hx,updateR,hkr,hg]
        rw [e1];rfl
       ·cases hl
      ·cases hl
     ·cases hl
    ·cases hl
   cases op <;> simp only [isUpd,reduceCtorEq] at hi
   ·exact key _ _ _ _ hl
   ·exact key _ _ _ _ hl
  ·exact e.elim
 ·exact e.elim
theorem pkThen_ok {op:Op} {w:Bool} {K:AV→Prop} (e:pkThen w (pkR G w op A) K) : ∃ v,(opR P G op).run A h=some (.val v h)∧K v:=by
 unfold pkThen at e
 split at e
 ·rename_i t v he
  refine ⟨v,?_,e.2⟩
  have e1:=e.1
  subst e1
  unfold pkR at he
  split at he
  ·rename_i c a b
   split at he
   ·rename_i t' hc
    cases t <;> simp only [] at he <;> split at he <;> first | (cases he;done) | skip
    all_goals
     rename_i u hu
     simp only [Option.some.injEq,Prod.mk.injEq] at he
     obtain ⟨rfl,rfl⟩:=he
     simp only [opR,hc,pickR,hu,retV]
   ·cases he
  ·cases he
 ·exact e.elim
theorem appThen_ok {op:Op} {K:AV→AHeap→Prop} (e:appThen h (appOf P G op A h) K) : ∃ v h',(opR P G op).run A h=some (.val v h')∧K v h':=by
 unfold appThen at e
 split at e
 ·rename_i a ha
  split at e
  ·rename_i sz ep xs hg
   split at e
   ·rename_i hsz
    obtain ⟨⟨e1,e2,e3⟩,hK⟩:=e
    refine ⟨_,_,?_,hK⟩
    unfold appOf at ha
    split at ha
    ·rename_i args argTypes
     split at ha
     ·rename_i s x hargs
      split at ha
      ·rename_i el te hel hts
       split at ha
       ·rename_i i hinfo
        split at ha
        ·rename_i sz0 z hisz hz
         split at ha
         ·rename_i hzz
          unfold appV at ha
          split at ha
          ·rename_i id ep0 len x0 hs hx
           split at ha
           ·rename_i y ys hsrc
            split at ha
            ·rename_i hfit
             cases ha
             simp only [] at e1 e2 e3 hsz hg
             subst e1
             have hbeq:Nat.beq ep0 ep0=true:=Nat.beq_refl _
             have hsz':Nat.beq (sz0+1) sz=true:=by rw [beq_iff] at hsz ⊢;simp only [decide_eq_true_eq] at hsz ⊢;exact hsz.symm
             have hble:Nat.ble (0+len+(y::ys).length) xs.length=false:=by
              rw [ble_iff];simp only [List.length_cons,decide_eq_false_iff_not];omega
             have htake:xs.take len=xs:=by rw [e2];simp
             simp only [opR,hargs,builtinOp,hel,hts,hinfo,hisz,hz,hzz,hs,hx,appendO,appendV,hsrc,appendR,hfit,hg,hbeq,hsz',e3,Bool.and_self,Bool.and_true,hble,htake,retH]
            ·cases ha
           ·cases ha
          ·cases ha
         ·cases ha
        ·cases ha
       ·cases ha
      ·cases ha
     ·cases ha
    ·cases ha
   ·exact e.elim
  ·exact e.elim
 ·exact e.elim
theorem aplThen_ok {op:Op} {K:AV→AHeap→Prop} (e:aplThen h (aplOf P G op A h) K) : ∃ v h',(opR P G op).run A h=some (.val v h')∧K v h':=by
 unfold aplThen at e
 split at e
 ·rename_i a ha
  obtain ⟨⟨hne,hfit⟩,e⟩:=e
  unfold aplOf at ha
  split at ha
  ·rename_i args argTypes
   split at ha
   ·rename_i s x hargs
    split at ha
    ·rename_i el te hel hts
     split at ha
     ·rename_i i hinfo
      split at ha
      ·rename_i sz0 z hisz hz
       split at ha
       ·rename_i hzz
        unfold aplV at ha
        split at ha
        ·rename_i sv xv hs hx
         split at ha
         ·rename_i ys hsrc
          cases ha
          simp only [] at hne hfit e
          obtain ⟨y,yr,rfl⟩ : ∃ y yr,ys=y::yr:=by
           cases ys with
           | nil=>exact absurd rfl hne
           | cons y yr=>exact ⟨y,yr,rfl⟩
          split at e
          ·refine ⟨_,_,?_,e.2⟩
           simp only [opR,hargs,builtinOp,hel,hts,hinfo,hisz,hz,hzz,hs,hx,appendO,appendV,hsrc,appendR,hfit,e.1,newRowR,retH]
          ·refine ⟨_,_,?_,e.2⟩
           have e1:small (([]:List AV).length+(y::yr).length) i.bytes=true:=by rw [List.length_nil,Nat.zero_add];exact e.1
           have e2:fits (sz0+1) ([]:List AV)=true:=rfl
           simp only [opR,hargs,builtinOp,hel,hts,hinfo,hisz,hz,hzz,hs,hx,appendO,appendV,hsrc,appendR,hfit,e1,e2,Bool.and_true,newRowR,List.nil_append,retH]
          ·rename_i z0 zs
           obtain ⟨⟨e1,e2⟩,hK⟩:=e
           refine ⟨_,_,?_,hK⟩
           simp only [opR,hargs,builtinOp,hel,hts,hinfo,hisz,hz,hzz,hs,hx,appendO,appendV,hsrc,appendR,hfit,e1,e2,Bool.and_true,newRowR,retH]
          ·rename_i id ep0 len
           split at e
           ·rename_i sz ep xs hg
            split at e
            ·rename_i hsz
             obtain ⟨⟨e1,e2,e3⟩,hK⟩:=e
             refine ⟨_,_,?_,hK⟩
             subst e1
             have hbeq:Nat.beq ep0 ep0=true:=Nat.beq_refl _
             have hsz':Nat.beq (sz0+1) sz=true:=by rw [beq_iff] at hsz ⊢;simp only [decide_eq_true_eq] at hsz ⊢;exact hsz.symm
             have hble:Nat.ble (0+len+(y::yr).length) xs.length=false:=by
              rw [ble_iff];simp only [List.length_cons,decide_eq_false_iff_not];omega
             have htake:xs.take len=xs:=by rw [e2];simp
             simp only [opR,hargs,builtinOp,hel,hts,hinfo,hisz,hz,hzz,hs,hx,appendO,appendV,hsrc,appendR,hfit,hg,hbeq,hsz',e3,Bool.and_self,Bool.and_true,hble,htake,retH]
            ·exact e.elim
           ·exact e.elim
          ·exact e.elim
         ·cases ha
        ·cases ha
       ·cases ha
      ·cases ha
     ·cases ha
    ·cases ha
   ·cases ha
  ·cases ha
 ·exact e.elim
theorem HOps.nz {b:Option Nat} {Φ:St→Prop} {t:Nat} {xs:List AV} {A1:Fr} (ht:s.tmps.get t=some (.ls xs)) (p0:xs = []→∃ A0,putA s.tmps (some t) .nils=some A0∧HOps P G b ops l ⟨A0,s.heap⟩ Φ)
  (p1:putA s.tmps (some t) (.ps xs false)=some A1) (h1:HOps P G b ops l ⟨A1,s.heap⟩ Φ):HOps P G b ops l s Φ:=by
 intro i N h0' pl0 M0 w0 a w Q hb hl' hs hQ
 obtain ⟨pl,M,g1,g2,g3,g4,g5⟩:=hs.ex
 obtain ⟨hlt,hv⟩:=g3.at_ t _ ht
 have same:a.put (some t) (a.tmps.getD t undef)=a:=by
  obtain ⟨tm,df⟩:=a
  simp only [Act.put]
  congr 1
  apply Array.ext_getElem?
  intro k
  rw [Array.getElem?_setIfInBounds]
  by_cases e:t=k
  ·subst e
   have:t<tm.size:=by have:=g3.size;simp only at this;omega
   simp [Array.getD,this]
  ·simp [e]
 generalize hc:a.tmps.getD t undef=c at hv same
 cases hv with
 | lsn=>
  obtain ⟨A0,e0,h0⟩:=p0 rfl
  obtain ⟨q1,q2⟩:=putA_ok g3 (VRel.nils (pl:=pl) (M:=M)) (by rw [hs.n];exact hs.small) e0
  rw [same] at q1
  exact h0 i N h0' pl0 M0 w0 a w Q hb hl' ⟨⟨pl,M,g1,g2,q1,g4,g5⟩,by rw [← hs.n];exact q2,hs.small⟩ hQ
 | lsp h ht0=>
  obtain ⟨q1,q2⟩:=putA_ok g3 h (by rw [hs.n];exact hs.small) p1
  rw [same] at q1
  exact h1 i N h0' pl0 M0 w0 a w Q hb hl' ⟨⟨pl,M,g1,g2,q1,g4,g5⟩,by rw [← hs.n];exact q2,hs.small⟩ hQ
theorem WPn_ok {b:Option Nat} {Φ:St→Prop} {d:D} {K:D→St→Prop} (h:WPn d s K) (hk : ∀ d s',s'.tmps.n=s.tmps.n→K d s'→HOps P G b ops l s' Φ):HOps P G b ops l s Φ:=by
 have key : ∀ {t:Nat} {v:AV} {A':Fr},putA s.tmps (some t) v=some A'→A'.n=s.tmps.n:=fun {t v A'} e=>by
  simp only [putA,Fr.put] at e
  split at e
  ·simp at e;subst e;rfl
  ·cases e
 cases d
 case nz t a b=>
  simp only [WPn,nzOf] at h
  split at h
  ·rename_i xs ht
   obtain ⟨A1,e1,k1⟩:=putK_ok h.2
   exact HOps.nz ht (fun e=>by
    obtain ⟨A0,e0,k0⟩:=putK_ok (h.1 e)
    exact ⟨A0,e0,hk _ _ (key e0) k0⟩) e1 (hk _ _ (key e1) k1)
  ·exact h.elim
 all_goals exact hk _ _ rfl h
theorem WPo_ok (hG:GTop G) (hc:CallerOK P G call) {Φ:St→Prop} : ∀ (l:List Oper) (d:D) (s:St) (K:D→St→Prop),WPo P G call m ops l d s K→(∀ d s,s.tmps.n≤60000→K d s→Φ s)→HOps P G (some m) ops l s Φ
 | [],d,s,K,h,hK=>HOps.bounded fun hn=>HOps.nil (hK d s hn h)
 | o::r,d,s,K,h,hK=>by
  refine HOps.bounded fun hn=>?_
  simp only [WPo] at h
  refine WPn_ok h fun d s hn' h=>?_
  have hn:s.tmps.n≤60000:=by rw [hn'];exact hn
  refine pre_ok hG hn h fun d s' _ hW h=>HOps.weak hW ?_
  refine WPg_ok h (fun hg d h=>?_) (fun hg d h=>?_)
  ·cases d <;> simp only [WPop] at h
   case go n d'=>
    split at h
    ·rename_i v h' hb
     obtain ⟨A',e1,e2⟩:=putK_ok h
     refine HOps.one (s':=⟨A',h'⟩) hc ?_ (WPo_ok hG hc r _ _ K e2 hK)
     simp [stepR,oneOper,hg,hb,fin,e1]
    ·exact h.elim
   case val v d'=>
    obtain ⟨A',e1,e2⟩:=putK_ok h.2
    exact HOps.val hg h.1 e1 (WPo_ok hG hc r _ _ K e2 hK)
   case opv v h' d'=>
    obtain ⟨A',e1,e2⟩:=putK_ok h.2
    exact HOps.val hg h.1 e1 (WPo_ok hG hc r _ _ K e2 hK)
   case elem x d'=>
    obtain ⟨⟨xs,i,e1,e2⟩,h2⟩:=elemThen_ok (h:=s'.heap) h
    obtain ⟨A',e3,e4⟩:=putK_ok h2
    exact HOps.valLe hg e1 (Le.elem e2) e3 (WPo_ok hG hc r _ _ K e4 hK)
   case efd v h1 d'=>
    obtain ⟨f,args,e1,e2,h2⟩:=callThen_ok h
    obtain ⟨A',e3,e4⟩:=putK_ok h2
    exact HOps.calls hg e1 e2 fun v1 h1 ⟨q1,q2⟩=>by
     subst q1;subst q2
     exact ⟨A',e3,WPo_ok hG hc r _ _ K e4 hK⟩
   case look v d'=>
    obtain ⟨e1,h2⟩:=lookThen_ok h
    obtain ⟨A',e3,e4⟩:=putK_ok h2
    exact HOps.val hg e1 e3 (WPo_ok hG hc r _ _ K e4 hK)
   case upd es c d'=>
    obtain ⟨h',e1,h2⟩:=updThen_ok h
    obtain ⟨A',e3,e4⟩:=putK_ok h2
    exact HOps.val hg e1 e3 (WPo_ok hG hc r _ _ K e4 hK)
   case pk w d'=>
    obtain ⟨v,e1,h2⟩:=pkThen_ok (P:=P) (h:=s'.heap) h
    obtain ⟨A',e3,e4⟩:=putK_ok h2
    exact HOps.val hg e1 e3 (WPo_ok hG hc r _ _ K e4 hK)
   case app d'=>
    obtain ⟨v,h',e1,h2⟩:=appThen_ok h
    obtain ⟨A',e3,e4⟩:=putK_ok h2
    exact HOps.val hg e1 e3 (WPo_ok hG hc r _ _ K e4 hK)
   case apl d'=>
    obtain ⟨v,h',e1,h2⟩:=aplThen_ok h
    obtain ⟨A',e3,e4⟩:=putK_ok h2
    exact HOps.val hg e1 e3 (WPo_ok hG hc r _ _ K e4 hK)
   case slc d'=>
    obtain ⟨v,e1,h2⟩:=slcThen_ok h
    obtain ⟨A',e3,e4⟩:=putK_ok h2
    exact HOps.val hg e1 e3 (WPo_ok hG hc r _ _ K e4 hK)
   case slp ys d'=>
    obtain ⟨v,e1,h2⟩:=slpThen_ok h
    obtain ⟨A',e3,e4⟩:=putK_ok h2
    exact HOps.val hg (e1 _) e3 (WPo_ok hG hc r _ _ K e4 hK)
   case rix d'=>
    obtain ⟨v,e1,h2⟩:=rixThen_ok h
    obtain ⟨A',e3,e4⟩:=putK_ok h2
    exact HOps.val hg e1 e3 (WPo_ok hG hc r _ _ K e4 hK)
   case rld x d'=>
    obtain ⟨v,e1,h2⟩:=rldThen_ok h
    obtain ⟨A',e3,e4⟩:=putK_ok h2
    exact HOps.val hg e1 e3 (WPo_ok hG hc r _ _ K e4 hK)
   case rst x xs d'=>
    obtain ⟨h',e1,h2⟩:=rstThen_ok h
    obtain ⟨A',e3,e4⟩:=putK_ok h2
    exact HOps.val hg e1 e3 (WPo_ok hG hc r _ _ K e4 hK)
   case pure v d'=>
    obtain ⟨f,args,e1,e2,h2⟩:=callThen_ok h
    obtain ⟨A',e3,e4⟩:=putK_ok h2
    exact HOps.calls hg e1 (e2 _) fun v1 h1 ⟨q1,q2⟩=>by
     subst q1;subst q2
     exact ⟨A',e3,WPo_ok hG hc r _ _ K e4 hK⟩
   case eff Y rr hp I d'=>
    obtain ⟨f,args,e1,e2,h2⟩:=callThen_ok h
    exact HOps.calls hg e1 e2 fun v1 h1 ⟨y,q0,q1,q2⟩=>by
     subst q1;subst q2
     obtain ⟨A',e3,e4⟩:=putK_ok (h2 y q0)
     exact ⟨A',e3,WPo_ok hG hc r _ _ K e4 hK⟩
  ·obtain ⟨A',e1,e2⟩:=putK_ok h
   exact HOps.skip hg e1 (WPo_ok hG hc r _ _ K e2 hK)
theorem dOne_yes {F:Fr} {d:DOper} (hg:guardR ⟨F.n,lookFr F d.look .nil⟩ d.r.g=some true):dOne call F h d=dYes call F h d:=by
 simp only [dOne,hg]
 rfl
theorem DSpec.less {F:Fr} {look:List Tmp} {h1:AHeap} {r:Rec} {u:AV} (hl:Le u v) (hd:DSpec P G ops o look F h v h1 r):DSpec P G ops o look F h u h1 r:=
 ⟨hd.le,hd.keep,hd.new,fun nk n0 g pl M a w K Q q1 q2 q3 q4 q5 q6 q7 q8 q9 q10 hK=>hd.exec nk n0 g pl M a w K Q q1 q2 q3 q4 q5 q6 q7 q8 q9 q10 fun cv w' pl' M' g' z1 z2 z3 z4 z5 z6 z7=>hK cv w' pl' M' g' z1 z2 (hl _ _ _ z3) z4 z5 z6 z7⟩
theorem DSpec.bare (hG:GTop G) {F:Fr} {h1:AHeap} {u:AV} (hg:guardR ⟨F.n,lookFr F (o.looksAt ops) .nil⟩ (guardDst ops o)=some true) (e:(opR P G o.op).run ⟨F.n,lookFr F (o.looksAt ops) .nil⟩ AHeap.none=some (.val v h1))
  (ht:topsAt F 0 (o.looksAt ops)=true) (hl:Le u (leave 0 0 v h1).1) (hu:u.top=0):DSpec P G ops o (o.looksAt ops) F h u h ⟨⟨false, [],0,0⟩,⟨false, [],0,0⟩⟩:=by
 refine ⟨Nat.le_refl _,fun _ _ _ h=>h,fun id h1 h2=>by omega,?_⟩
 intro nk n0 g pl M a w K Q hn0 hnk hbig hr hvis hU hG' hs hdf hF hK
 have hf0:FrRel pl M ⟨F.n,lookFr F (o.looksAt ops) .nil⟩ a:=lookFr_rel hs hdf hF
 rw [guardR_ok hf0 hg]
 simp only [if_true]
 left
 have hf:FrRel (cutPl pl 0) M ⟨F.n,lookFr F (o.looksAt ops) .nil⟩ a:=cut_look hs hdf ht hF
 have hcut:cutPl pl 0=fun _=>none:=by
  funext id
  cases hp:cutPl pl 0 id with
  | none=>rfl
  | some p=>exact absurd (cutPl_some.1 hp).1 (Nat.not_lt_zero _)
 rw [hcut] at hf
 have hG2:GOk G (fun _=>none) M:=hG'.none hG
 obtain ⟨dst,op,ty,pos,after,guard⟩:=o
 obtain ⟨pl1,M1,cv,w1,nx,q1,q2,q3,q4,q5,q6⟩:=ok_all (P:=P) (G:=G) op _ M _ _ v _ a w dst ty pos after guard hG2 (rep_none hr) hf e
 obtain ⟨pl2,M2,k1,k2,k3,_⟩:=leave_ok 0 (v2:=(leave 0 0 v h1).1) (h2:=(leave 0 0 v h1).2) (rep_none hr) q4 q3 q5 q6 rfl
 have fin:K (a.put dst cv) w1:=by
  obtain ⟨z1,z2⟩:=none_step (m:=n0) hr k2 k3
  exact hK cv w1 pl M2 g z1 z2 ((hl _ _ _ k1).none hu) (Ext.refl _) (fun id h _=>h) (fun _ _=>rfl) (fun id o' hh=>absurd hh (noneHolds (ids:= [])))
 unfold Oper.wp
 rw [q1]
 rcases q2 with rfl | ⟨rfl,rfl⟩
 ·exact fin
 ·exact fin
theorem sameP_ok {h h':AHeap} : ∀ {n:Nat},sameP h h' n→∀ id,id<n→h'.get id=h.get id
 | 0,_,id,hid=>absurd hid (Nat.not_lt_zero _)
 | n+1,hs,id,hid=>by
  rcases Nat.lt_or_ge id n with q | q
  ·exact sameP_ok hs.2 id q
  ·have:id=n:=by omega
   subst this;exact hs.1
theorem clash_ok {masks:List (Nat × Nat)} {k:Nat} {r:Rec} {rs:List Rec} {p:Prop} (h:clash masks k r rs p):noClash (maskAt masks k) r rs k=true∧p:=by
 unfold clash at h
 split at h
 ·rename_i q;exact ⟨q,h⟩
 ·exact h.elim
theorem putA_nn {dst:Option Tmp} (h:putA A dst v=some A'):A'.n=A.n:=by
 cases dst with
 | none=>simp [putA] at h;subst h;rfl
 | some t=>
  have hp':A.put t v=some A':=h
  unfold Fr.put at hp'
  split at hp'
  ·simp at hp';subst hp';rfl
  ·simp at hp'
theorem WPd_ok (hG:GTop G) (hc:CallerOK P G call) {Φ:Fr→AHeap→Prop} : ∀ (l:List Oper) (k:Nat) (d:D) (F:Fr) (h:AHeap) (rs:List Rec) (K:D→St→Prop),WPd P G call ops (masksGo ops.toList 0 []) l k d F h rs K→F.n≤60000→(∀ d F h,F.n≤60000→K d ⟨F,h⟩→Φ F h)→DGo P G ops k l F h rs Φ
 | [],k,d,F,h,rs,K,hw,hF,hK=>by
  simp only [WPd] at hw
  split at hw
  ·rename_i q;exact DGo.done q (hK d F h hF hw)
  ·exact hw.elim
 | o::r,k,d,F,h,rs,K,hw,hF,hK=>by
  simp only [WPd] at hw
  refine WPg_ok hw (fun hg d hw=>?_) (fun hg d hw=>?_)
  ·cases d <;> simp only [WPdo] at hw
   case go n d'=>
    split at hw
    ·rename_i v h' rec hd
     obtain ⟨e1,e2⟩:=clash_ok hw
     obtain ⟨A',e3,e4⟩:=putK_ok e2
     refine DGo.step (DSpec.of hc (r:=rec) ?_) e1 e3 (WPd_ok hG hc r (k+1) _ _ _ _ K e4 (by rw [putA_nn e3];exact hF) hK)
     rw [dOne_yes (d:=⟨oneOper P G ops o,o.looksAt ops,footOf o.op,kindOf o.op,0⟩) hg]
     exact hd
    ·exact hw.elim
   case asl u d'=>
    split at hw
    ·rename_i v h' rec hd
     obtain ⟨hl,hw⟩:=hw
     obtain ⟨e1,e2⟩:=clash_ok hw
     obtain ⟨A',e3,e4⟩:=putK_ok e2
     refine DGo.step (DSpec.less hl (DSpec.of hc (r:=rec) ?_)) e1 e3 (WPd_ok hG hc r (k+1) _ _ _ _ K e4 (by rw [putA_nn e3];exact hF) hK)
     rw [dOne_yes (d:=⟨oneOper P G ops o,o.looksAt ops,footOf o.op,kindOf o.op,0⟩) hg]
     exact hd
    ·exact hw.elim
   case slc d'=>
    split at hw
    ·rename_i hk
     obtain ⟨v,e0,hw⟩:=slcThen_ok hw
     obtain ⟨e1,e2⟩:=clash_ok hw
     obtain ⟨A',e3,e4⟩:=putK_ok e2
     refine DGo.step (dRead_ok (d:=⟨oneOper P G ops o,o.looksAt ops,footOf o.op,kindOf o.op,0⟩) (ids:=idsOf F (footOf o.op)) rfl (by simpa [beq_iff] using hk) ?_ hg) e1 e3 (WPd_ok hG hc r (k+1) _ _ _ _ K e4 (by rw [putA_nn e3];exact hF) hK)
     have e0':(oneOper P G ops o).op.run ⟨F.n,lookFr F (o.looksAt ops) .nil⟩ ⟨1000000,onlyT h (idsOf F (footOf o.op)) .nil⟩=some (.val v ⟨1000000,onlyT h (idsOf F (footOf o.op)) .nil⟩):=e0
     simp only [dRead,e0']
    ·exact hw.elim
   case rix d'=>
    split at hw
    ·rename_i hk
     obtain ⟨v,e0,hw⟩:=rixThen_ok hw
     obtain ⟨e1,e2⟩:=clash_ok hw
     obtain ⟨A',e3,e4⟩:=putK_ok e2
     refine DGo.step (dRead_ok (d:=⟨oneOper P G ops o,o.looksAt ops,footOf o.op,kindOf o.op,0⟩) (ids:=idsOf F (footOf o.op)) rfl (by simpa [beq_iff] using hk) ?_ hg) e1 e3 (WPd_ok hG hc r (k+1) _ _ _ _ K e4 (by rw [putA_nn e3];exact hF) hK)
     have e0':(oneOper P G ops o).op.run ⟨F.n,lookFr F (o.looksAt ops) .nil⟩ ⟨1000000,onlyT h (idsOf F (footOf o.op)) .nil⟩=some (.val v ⟨1000000,onlyT h (idsOf F (footOf o.op)) .nil⟩):=e0
     simp only [dRead,e0']
    ·exact hw.elim
   case rld x d'=>
    split at hw
    ·rename_i hk
     obtain ⟨v,e0,hw⟩:=rldThen_ok hw
     obtain ⟨e1,e2⟩:=clash_ok hw
     obtain ⟨A',e3,e4⟩:=putK_ok e2
     refine DGo.step (dRead_ok (d:=⟨oneOper P G ops o,o.looksAt ops,footOf o.op,kindOf o.op,0⟩) (ids:=idsOf F (footOf o.op)) rfl (by simpa [beq_iff] using hk) ?_ hg) e1 e3 (WPd_ok hG hc r (k+1) _ _ _ _ K e4 (by rw [putA_nn e3];exact hF) hK)
     have e0':(oneOper P G ops o).op.run ⟨F.n,lookFr F (o.looksAt ops) .nil⟩ ⟨1000000,onlyT h (idsOf F (footOf o.op)) .nil⟩=some (.val v ⟨1000000,onlyT h (idsOf F (footOf o.op)) .nil⟩):=e0
     simp only [dRead,e0']
    ·exact hw.elim
   case slp ys d'=>
    split at hw
    ·rename_i hk
     obtain ⟨v,e0,hw⟩:=slpThen_ok hw
     obtain ⟨e1,e2⟩:=clash_ok hw
     obtain ⟨A',e3,e4⟩:=putK_ok e2
     refine DGo.step (dRead_ok (d:=⟨oneOper P G ops o,o.looksAt ops,footOf o.op,kindOf o.op,0⟩) (ids:=idsOf F (footOf o.op)) rfl (by simpa [beq_iff] using hk) ?_ hg) e1 e3 (WPd_ok hG hc r (k+1) _ _ _ _ K e4 (by rw [putA_nn e3];exact hF) hK)
     have e0':(oneOper P G ops o).op.run ⟨F.n,lookFr F (o.looksAt ops) .nil⟩ ⟨1000000,onlyT h (idsOf F (footOf o.op)) .nil⟩=some (.val v ⟨1000000,onlyT h (idsOf F (footOf o.op)) .nil⟩):=e0 _
     simp only [dRead,e0']
    ·exact hw.elim
   case rst x xs d'=>
    split at hw
    ·rename_i hk
     obtain ⟨k1,k2,hw⟩:=hw
     obtain ⟨hw',e0,hw⟩:=rstThen_ok hw
     split at hw
     ·rename_i v h' rec hd
      obtain ⟨e1,e2⟩:=clash_ok hw
      obtain ⟨A',e3,e4⟩:=putK_ok e2
      refine DGo.step (dWrite_ok (d:=⟨oneOper P G ops o,o.looksAt ops,footOf o.op,kindOf o.op,0⟩) (ids:=idsOf F (footOf o.op)) rfl ?_ hg) e1 e3 (WPd_ok hG hc r (k+1) _ _ _ _ K e4 (by rw [putA_nn e3];exact hF) hK)
      have e0':(oneOper P G ops o).op.run ⟨F.n,lookFr F (o.looksAt ops) .nil⟩ ⟨h.n,onlyT h (idsOf F (footOf o.op)) .nil⟩=some (.val undefA hw'):=e0
      have k1':topsAt F h.n (o.looksAt ops)=true:=k1
      have k2':objsAt h h.n (idsOf F (footOf o.op))=true:=k2
      simp only [dWrite,dWriteOn,k1',k2',Bool.and_self,e0']
      exact hd
     ·exact hw.elim
    ·exact hw.elim
   case upd es c d'=>
    split at hw
    ·rename_i hk
     obtain ⟨k1,k2,hw⟩:=hw
     obtain ⟨hw',e0,hw⟩:=updThen_ok hw
     split at hw
     ·rename_i v h' rec hd
      obtain ⟨e1,e2⟩:=clash_ok hw
      obtain ⟨A',e3,e4⟩:=putK_ok e2
      refine DGo.step (dWrite_ok (d:=⟨oneOper P G ops o,o.looksAt ops,footOf o.op,kindOf o.op,0⟩) (ids:=idsOf F (footOf o.op)) rfl ?_ hg) e1 e3 (WPd_ok hG hc r (k+1) _ _ _ _ K e4 (by rw [putA_nn e3];exact hF) hK)
      have e0':(oneOper P G ops o).op.run ⟨F.n,lookFr F (o.looksAt ops) .nil⟩ ⟨h.n,onlyT h (idsOf F (footOf o.op)) .nil⟩=some (.val undefA hw'):=e0
      have k1':topsAt F h.n (o.looksAt ops)=true:=k1
      have k2':objsAt h h.n (idsOf F (footOf o.op))=true:=k2
      simp only [dWrite,dWriteOn,k1',k2',Bool.and_self,e0']
      exact hd
     ·exact hw.elim
    ·exact hw.elim
   case apx xs d'=>
    split at hw
    ·rename_i hk
     obtain ⟨k1,k2,hw⟩:=hw
     obtain ⟨v0,hw',e0,hw⟩:=aplThen_ok (aplX hw)
     split at hw
     ·rename_i v h' rec hd
      obtain ⟨e1,e2⟩:=clash_ok hw
      obtain ⟨A',e3,e4⟩:=putK_ok e2
      refine DGo.step (dWrite_ok (d:=⟨oneOper P G ops o,o.looksAt ops,footOf o.op,kindOf o.op,0⟩) (ids:=idsOf F (footOf o.op)) rfl ?_ hg) e1 e3 (WPd_ok hG hc r (k+1) _ _ _ _ K e4 (by rw [putA_nn e3];exact hF) hK)
      have e0':(oneOper P G ops o).op.run ⟨F.n,lookFr F (o.looksAt ops) .nil⟩ ⟨h.n,onlyT h (idsOf F (footOf o.op)) .nil⟩=some (.val v0 hw'):=e0
      have k1':topsAt F h.n (o.looksAt ops)=true:=k1
      have k2':objsAt h h.n (idsOf F (footOf o.op))=true:=k2
      simp only [dWrite,dWriteOn,k1',k2',Bool.and_self,e0']
      exact hd
     ·exact hw.elim
    ·exact hw.elim
   case app d'=>
    split at hw
    ·rename_i hk
     obtain ⟨k1,k2,hw⟩:=hw
     obtain ⟨v0,hw',e0,hw⟩:=bareThen_ok hw
     split at hw
     ·rename_i v h' rec hd
      obtain ⟨e1,e2⟩:=clash_ok hw
      obtain ⟨A',e3,e4⟩:=putK_ok e2
      refine DGo.step (dWrite_ok (d:=⟨oneOper P G ops o,o.looksAt ops,footOf o.op,kindOf o.op,0⟩) (ids:=idsOf F (footOf o.op)) rfl ?_ hg) e1 e3 (WPd_ok hG hc r (k+1) _ _ _ _ K e4 (by rw [putA_nn e3];exact hF) hK)
      have e0':(oneOper P G ops o).op.run ⟨F.n,lookFr F (o.looksAt ops) .nil⟩ ⟨h.n,onlyT h (idsOf F (footOf o.op)) .nil⟩=some (.val v0 hw'):=e0
      have k1':topsAt F h.n (o.looksAt ops)=true:=k1
      have k2':objsAt h h.n (idsOf F (footOf o.op))=true:=k2
      simp only [dWrite,dWriteOn,k1',k2',Bool.and_self,e0']
      exact hd
     ·exact hw.elim
    ·exact hw.elim
   case opv v0 hw' d'=>
    split at hw
    ·rename_i hk
     obtain ⟨k1,k2,e0,hw⟩:=hw
     split at hw
     ·rename_i v h' rec hd
      obtain ⟨e1,e2⟩:=clash_ok hw
      obtain ⟨A',e3,e4⟩:=putK_ok e2
      refine DGo.step (dWrite_ok (d:=⟨oneOper P G ops o,o.looksAt ops,footOf o.op,kindOf o.op,0⟩) (ids:=idsOf F (footOf o.op)) rfl ?_ hg) e1 e3 (WPd_ok hG hc r (k+1) _ _ _ _ K e4 (by rw [putA_nn e3];exact hF) hK)
      have e0':(oneOper P G ops o).op.run ⟨F.n,lookFr F (o.looksAt ops) .nil⟩ ⟨h.n,onlyT h (idsOf F (footOf o.op)) .nil⟩=some (.val v0 hw'):=e0
      have k1':topsAt F h.n (o.looksAt ops)=true:=k1
      have k2':objsAt h h.n (idsOf F (footOf o.op))=true:=k2
      simp only [dWrite,dWriteOn,k1',k2',Bool.and_self,e0']
      exact hd
     ·exact hw.elim
    ·exact hw.elim
   case val v d'=>
    split at hw
    ·rename_i hk
     obtain ⟨e0,hw⟩:=hw
     obtain ⟨e1,e2⟩:=clash_ok hw
     obtain ⟨A',e3,e4⟩:=putK_ok e2
     refine DGo.step (dRead_ok (d:=⟨oneOper P G ops o,o.looksAt ops,footOf o.op,kindOf o.op,0⟩) (ids:=idsOf F (footOf o.op)) rfl (by simpa [beq_iff] using hk) ?_ hg) e1 e3 (WPd_ok hG hc r (k+1) _ _ _ _ K e4 (by rw [putA_nn e3];exact hF) hK)
     have e0':(oneOper P G ops o).op.run ⟨F.n,lookFr F (o.looksAt ops) .nil⟩ ⟨1000000,onlyT h (idsOf F (footOf o.op)) .nil⟩=some (.val v ⟨1000000,onlyT h (idsOf F (footOf o.op)) .nil⟩):=e0
     simp only [dRead,e0']
    ·exact hw.elim
   case elem x d'=>
    split at hw
    ·rename_i hk
     obtain ⟨⟨xs,i,e0,ex⟩,hw⟩:=elemThen_ok (h:=⟨1000000,onlyT h (idsOf F (footOf o.op)) .nil⟩) hw
     obtain ⟨e1,e2⟩:=clash_ok hw
     obtain ⟨A',e3,e4⟩:=putK_ok e2
     refine DGo.step (DSpec.less (Le.elem ex) (dRead_ok (d:=⟨oneOper P G ops o,o.looksAt ops,footOf o.op,kindOf o.op,0⟩) (ids:=idsOf F (footOf o.op)) rfl (by simpa [beq_iff] using hk) ?_ hg)) e1 e3 (WPd_ok hG hc r (k+1) _ _ _ _ K e4 (by rw [putA_nn e3];exact hF) hK)
     have e0':(oneOper P G ops o).op.run ⟨F.n,lookFr F (o.looksAt ops) .nil⟩ ⟨1000000,onlyT h (idsOf F (footOf o.op)) .nil⟩=some (.val (.pptr xs i 0) ⟨1000000,onlyT h (idsOf F (footOf o.op)) .nil⟩):=e0
     simp only [dRead,e0']
    ·exact hw.elim
   case efx same v h' d'=>
    obtain ⟨f,args,e1,hw⟩:=callThen_ok hw
    split at hw
    ·rename_i hb
     simp only [ble_iff,Bool.and_eq_true,decide_eq_true_eq] at hb
     obtain ⟨⟨k1,k3⟩,k4⟩:=hb
     obtain ⟨k2,k5,e2,hw⟩:=hw
     have hcl:=cleanP_ok k2
     cases same with
     | true=>
      obtain ⟨e3,hw⟩:=clash_ok hw
      obtain ⟨F',e5,e6⟩:=putK_ok hw
      exact DGo.step (DSpec.effS hg e1 k1 (fun id o' hh=>cleanTo_ok h.n hcl id o' (AHeap.get_some.1 hh).1 hh) k3 (sameP_ok k5) e2) e3 e5 (WPd_ok hG hc r (k+1) _ _ _ _ K e6 (by rw [putA_nn e5];exact hF) hK)
     | false=>
      obtain ⟨e3,hw⟩:=clash_ok hw
      obtain ⟨F',e5,e6⟩:=putK_ok hw
      exact DGo.step (DSpec.eff hg e1 k1 (fun id o' hh=>cleanTo_ok h.n hcl id o' (AHeap.get_some.1 hh).1 hh) k3 (fewerTo_ok h.n (by simpa using k4)) e2) e3 e5 (WPd_ok hG hc r (k+1) _ _ _ _ K e6 (by rw [putA_nn e5];exact hF) hK)
    ·exact hw.elim
   case efd v h' d'=>
    obtain ⟨f,args,e1,hw⟩:=callThen_ok hw
    split at hw
    ·rename_i hk
     simp only [ble_iff,Bool.and_eq_true,decide_eq_true_eq] at hk
     obtain ⟨⟨⟨k1,k2⟩,k3⟩,k4⟩:=hk
     obtain ⟨e2,hw⟩:=hw
     obtain ⟨e3,e4⟩:=clash_ok hw
     obtain ⟨A',e5,e6⟩:=putK_ok e4
     exact DGo.step (DSpec.eff hg e1 k1 (fun id o' hh=>cleanTo_ok h.n k2 id o' (AHeap.get_some.1 hh).1 hh) k3 (fewerTo_ok h.n k4) e2) e3 e5 (WPd_ok hG hc r (k+1) _ _ _ _ K e6 (by rw [putA_nn e5];exact hF) hK)
    ·exact hw.elim
   case look v d'=>
    split at hw
    ·rename_i hk
     obtain ⟨e0,hw⟩:=lookThen_ok hw
     obtain ⟨e1,e2⟩:=clash_ok hw
     obtain ⟨A',e3,e4⟩:=putK_ok e2
     refine DGo.step (dRead_ok (d:=⟨oneOper P G ops o,o.looksAt ops,footOf o.op,kindOf o.op,0⟩) (ids:=idsOf F (footOf o.op)) rfl (by simpa [beq_iff] using hk) ?_ hg) e1 e3 (WPd_ok hG hc r (k+1) _ _ _ _ K e4 (by rw [putA_nn e3];exact hF) hK)
     have e0':(oneOper P G ops o).op.run ⟨F.n,lookFr F (o.looksAt ops) .nil⟩ ⟨1000000,onlyT h (idsOf F (footOf o.op)) .nil⟩=some (.val v ⟨1000000,onlyT h (idsOf F (footOf o.op)) .nil⟩):=e0
     simp only [dRead,e0']
    ·exact hw.elim
   case pk w d'=>
    split at hw
    ·rename_i hk
     obtain ⟨v,e0,hw⟩:=pkThen_ok (P:=P) (h:=⟨1000000,onlyT h (idsOf F (footOf o.op)) .nil⟩) hw
     obtain ⟨e1,e2⟩:=clash_ok hw
     obtain ⟨A',e3,e4⟩:=putK_ok e2
     refine DGo.step (dRead_ok (d:=⟨oneOper P G ops o,o.looksAt ops,footOf o.op,kindOf o.op,0⟩) (ids:=idsOf F (footOf o.op)) rfl (by simpa [beq_iff] using hk) ?_ hg) e1 e3 (WPd_ok hG hc r (k+1) _ _ _ _ K e4 (by rw [putA_nn e3];exact hF) hK)
     have e0':(oneOper P G ops o).op.run ⟨F.n,lookFr F (o.looksAt ops) .nil⟩ ⟨1000000,onlyT h (idsOf F (footOf o.op)) .nil⟩=some (.val v ⟨1000000,onlyT h (idsOf F (footOf o.op)) .nil⟩):=e0
     simp only [dRead,e0']
    ·exact hw.elim
   case pure v d'=>
    obtain ⟨f,args,e1,hw⟩:=callThen_ok hw
    split at hw
    ·rename_i hk
     simp only [beq_iff,Bool.and_eq_true,decide_eq_true_eq] at hk
     obtain ⟨e2,hw⟩:=hw
     obtain ⟨e3,e4⟩:=clash_ok hw
     obtain ⟨A',e5,e6⟩:=putK_ok e4
     exact DGo.step (DSpec.pure hG hg e1 hk.1 hk.2 e2) e3 e5 (WPd_ok hG hc r (k+1) _ _ _ _ K e6 (by rw [putA_nn e5];exact hF) hK)
    ·exact hw.elim
   case fsl k0 ts t ys d'=>
    obtain ⟨v0,h1,e1,hw⟩:=bareThen_ok hw
    split at hw
    ·rename_i ht
     obtain ⟨hl,hw⟩:=hw
     obtain ⟨e3,e4⟩:=clash_ok hw
     obtain ⟨A',e5,e6⟩:=putK_ok e4
     exact DGo.step (DSpec.bare hG hg e1 ht hl rfl) e3 e5 (WPd_ok hG hc r (k+1) _ _ _ _ K e6 (by rw [putA_nn e5];exact hF) hK)
    ·exact hw.elim
  ·obtain ⟨e1,e2⟩:=clash_ok hw
   obtain ⟨A',e3,e4⟩:=putK_ok e2
   refine DGo.step (v:=undefA) (h1:=h) (DSpec.of hc (r:=Ev.rd []) ?_) e1 e3 (WPd_ok hG hc r (k+1) _ _ _ _ K e4 (by rw [putA_nn e3];exact hF) hK)
   have hg':guardR ⟨F.n,lookFr F (o.looksAt ops) .nil⟩ (oneOper P G ops o).g=some false:=hg
   simp only [dOne,hg']
theorem Weak.list {b:Option Nat} {ts:List Nat} {vs:List AV} {os:List AObj} (h1:getAll s.tmps ts=some vs) (h2:objsAll s.heap s.heap.n 0=some os):Weak G b s (stL s.tmps.n ts (vs,os)):=by
 obtain ⟨k1,k2⟩:=objsAll_some _ _ _ h2
 exact Weak.sub ⟨rfl,fun t v h=>getAll_get h1 t v (mkFr_get h),by simp [stL,mkH,k1],fun id o hh=>by simpa using k2 id o (mkH_get hh)⟩
theorem loop_ok (hG:GTop G) {b:Code} {X:Type} {n:Nat} {ts:List Nat} {S:X→List AV × List AObj} {I:X→Prop} {ms:X→Nat} {K:AExit→D→St→Prop} {Φ:AExit→St→Prop}
  (h3 : ∀ x,I x→∀ Φ':AExit→St→Prop,(∀ e d s,s.tmps.n≤60000→roundK m n ts S I ms x K e d s→Φ' e s)→HCode P G (some m) b (stL n ts (S x)) Φ')
  (hK : ∀ e d s,s.tmps.n≤60000→K e d s→Φ e s) (x0:X) (h2:I x0):HCode P G (some m) (.loop b) (stL n ts (S x0)) Φ:=by
 refine HCode.loop (fun k s1=>∃ x,s1.tmps.n=n∧Weak G (some m) s1 (stL n ts (S x))∧I x∧ms x=k) (ms x0) ⟨x0,rfl,Weak.refl _,h2,rfl⟩ ?_
 rintro k s1 ⟨x,e2,hW1,hx,rfl⟩
 refine HCode.weak hW1 (h3 x hx _ fun e d s2 hn2 he=>?_)
 cases e with
 | normal=>
  simp only [roundK] at he
  refine pre_ok hG hn2 he fun d s3 e3 hW3 he=>?_
  split at he
  ·rename_i vs' os' hnn hv' ho'
   simp only [beq_iff,decide_eq_true_eq] at hnn
   obtain ⟨y,y1,y2,y3⟩:=he
   refine ⟨ms y,y2,y,by omega,hW3.trans ?_,y1,rfl⟩
   have:=Weak.list (G:=G) (b:=some m) hv' ho'
   rw [y3,hnn] at this
   exact this
  ·exact he.elim
 | exit id=>exact hK _ d s2 hn2 he
 | ret=>exact hK _ d s2 hn2 he
theorem WP_ok (hm:P.follows .mixedOrders=true) (hG:GTop G) (hc:CallerOK P G call) : ∀ (c:Code) (d:D) (s:St) (K:AExit→D→St→Prop) (Φ:AExit→St→Prop),(WP P G call m c).run d s K→(∀ e d s,s.tmps.n≤60000→K e d s→Φ e s)→HCode P G (some m) c s Φ:=by
 intro c
 induction c with
 | skip=>exact fun d s K Φ h hK=>HCode.bounded fun hn=>HCode.skip (hK _ d s hn h)
 | label l=>exact fun d s K Φ h hK=>HCode.bounded fun hn=>HCode.label (hK _ d s hn h)
 | exit id=>exact fun d s K Φ h hK=>HCode.bounded fun hn=>HCode.exit (hK _ d s hn h)
 | ret=>exact fun d s K Φ h hK=>HCode.bounded fun hn=>HCode.ret (hK _ d s hn h)
 | scope b ih=>exact fun d s K Φ h hK=>HCode.scope (ih d s K Φ h hK)
 | seq a b iha ihb=>
  intro d s K Φ h hK
  have plain : ∀ d s,(WP P G call m a).run d s (seqK (WP P G call m b) K)→HCode P G (some m) (.seq a b) s Φ:=fun d s h=>by
   refine HCode.seq (iha d s _ _ h fun e d s hn he=>?_)
   cases e with
   | normal=>exact ihb d s K Φ he hK
   | exit id=>exact hK _ d s hn he
   | ret=>exact hK _ d s hn he
  cases d
  case join X ts S I d1 d2=>
   obtain ⟨h1,h2⟩:=h
   refine HCode.seq (iha d1 s _ _ h1 fun e d s' hn he=>?_)
   cases e with
   | normal=>
    simp only [joinK] at he
    refine HCode.bounded fun hn=>?_
    refine pre_ok hG hn he fun d s3 e3 hW3 he=>HCode.weak hW3 ?_
    split at he
    ·rename_i vs' os' hnn hv' ho'
     simp only [beq_iff,decide_eq_true_eq] at hnn
     obtain ⟨y,y1,y3⟩:=he
     have hw:=Weak.list (G:=G) (b:=some m) hv' ho'
     rw [y3,hnn] at hw
     exact HCode.weak hw (ihb (d2 y) _ K Φ (h2 y y1) hK)
    ·exact he.elim
   | exit id=>exact hK _ d s' hn he
   | ret=>exact hK _ d s' hn he
  all_goals exact plain _ s h
 | block id b ih=>
  intro d s K Φ h hK
  refine HCode.block (ih d s _ _ h fun e d s hn he=>?_)
  cases e with
  | normal=>exact hK _ d s hn he
  | ret=>exact hK _ d s hn he
  | exit k=>
   simp only [outK,beq_iff] at he
   simp only [OutB]
   by_cases q:k=id
   ·simp only [q,decide_true,if_true] at he ⊢;exact hK _ d s hn he
   ·simp only [q,decide_false,if_false] at he ⊢;exact hK _ d s hn he
 | region id ops draw=>
  intro d s K Φ h hK
  refine HCode.bounded fun hn=>?_
  cases draw with
  | false=>exact HCode.region (WPo_ok hG hc _ d s _ h fun d s' hn' he=>hK .normal d s' hn' he)
  | true=>
   refine pre_ok hG hn h fun d s' e1 hW h=>HCode.weak hW ?_
   split at h
   ·rename_i hfit
    exact HCode.draw hm hfit (WPd_ok hG hc _ 0 d _ _ _ _ h (by omega) fun d F hp hF he=>hK .normal d ⟨F,hp⟩ hF he)
   ·exact h.elim
 | cond x a b iha ihb=>
  intro d s K Φ h hK
  refine HCode.bounded fun hn=>?_
  refine pre_ok hG hn h fun d s' _ hW h=>HCode.weak hW ?_
  cases hv:(opd G x).run s'.tmps with
  | none=>rw [hv] at h;exact h.elim
  | some v=>
   rw [hv] at h
   cases v <;> simp only [WPc] at h
   case bool t=>
    cases d <;> simp only [] at h
    case go n d'=>
     cases t with
     | true=>exact HCode.cond hv (fun _=>iha _ s' K Φ h hK) (fun k=>by cases k)
     | false=>exact HCode.cond hv (fun k=>by cases k) (fun _=>ihb _ s' K Φ h hK)
    case tt d'=>exact HCode.condT h.1 hv (iha _ s' K Φ h.2 hK)
    case ff d'=>exact HCode.condF h.1 hv (ihb _ s' K Φ h.2 hK)
    case br d1 d2=>exact HCode.cond hv (fun k=>iha _ s' K Φ (h.1 k) hK) (fun k=>ihb _ s' K Φ (h.2 k) hK)
 | loop b ih=>
  intro d s K Φ h hK
  refine HCode.bounded fun hn=>?_
  refine pre_ok hG hn h fun d s' e1 hW h=>HCode.weak hW ?_
  have hn':s'.tmps.n≤60000:=by omega
  cases d <;> simp only [loopK] at h
  case loop X ts S I ms x0 db=>
   split at h
   ·rename_i vs os hv ho
    obtain ⟨h1,h2,h3⟩:=h
    refine HCode.weak (Weak.list hv ho) ?_
    rw [h1]
    exact loop_ok hG (fun x hx Φ' hΦ=>ih (db x) _ _ _ (h3 x hx) hΦ) hK x0 h2
   ·exact h.elim
  case loop2 X Y ts S S' I I' ms ms' x0 db db'=>
   split at h
   ·rename_i vs os hv ho
    obtain ⟨h1,h2,h3,h4⟩:=h
    refine HCode.weak (Weak.list hv ho) ?_
    rw [h1]
    refine loop_ok (S:=Sum.elim S S') (I:=Sum.elim I I') (ms:=Sum.elim ms ms') hG (fun x hx Φ' hΦ=>?_) hK x0 h2
    cases x with
    | inl x=>exact ih (db x) _ _ _ (h3 x hx) hΦ
    | inr x=>exact ih (db' x) _ _ _ (h4 x hx) hΦ
   ·exact h.elim
 | _=>intro d s K Φ h hK;exact h.elim
theorem HCall.enterW {hp : AHeap} {fn : Func} {Ψ : AV → AHeap → Prop} (pol : Nat) (hf : P.funcs[f]? = some fn) (hN : (fn.name == "runtime.NumGoroutine") = false) (hb : fn.body = some c) (hn : Nat.ble args.length fn.ntmps = true ∧ Nat.ble fn.ntmps 60000 = true)
  (h:HCode P G (some hp.n) c ⟨⟨fn.ntmps,argsFr fn.ntmps args 0 .nil⟩,hp⟩ fun e s=>(∀ id,e≠ .exit id)∧∃ s',Weak G (some hp.n) s s'∧∃ v,oneOrTuple (resultsR P fn.results.toList s'.tmps s'.heap)=some v∧Ψ (leave pol hp.n v s'.heap).1 (leave pol hp.n v s'.heap).2):HCall P G f args hp Ψ:=by
 intro pl M w vs hg hr hv
 simp only [ble_iff,decide_eq_true_eq] at hn
 left
 simp only [beq_eq_false_iff_ne,ne_eq] at hN
 refine ⟨by simp [callFunc,hf,hN,hb],calls_of_wp hf hb ?_⟩
 have hs0:SNow G fn.ntmps hp pl M w ⟨⟨fn.ntmps,argsFr fn.ntmps args 0 .nil⟩,hp⟩ { tmps:=vs++Array.replicate (fn.ntmps - vs.size) undef,defers:= [] } w:=
  ⟨⟨pl,M,hg,hr,start_fr hv hn.1 hn.2,Step.refl _ _ _ _,Nat.le_refl _⟩,rfl,hn.2⟩
 have hbase:Base (some hp.n) hp pl:=fun m hb=>by cases hb;exact ⟨rfl,fun id p hq=>hr.dom id p hq⟩
 refine h fn.ntmps hp pl M w _ w _ hbase hs0 fun e s a1 w1 h1 h2=>?_
 obtain ⟨hne,s',hW,v,hres,hΨ⟩:=h1
 have h2:=hW _ _ _ _ _ _ _ hbase h2
 obtain ⟨pl1,M1,g1,g2,g3,g4,g5⟩:=h2.ex
 obtain ⟨cv,k1,k2⟩:=results_ok g2 g3 hres
 obtain ⟨pl2,M2,q1,q2,q3,q4⟩:=leave_ok pol hr g2 k2 g4 g5 (rfl:leave pol hp.n v s'.heap=((leave pol hp.n v s'.heap).1,(leave pol hp.n v s'.heap).2))
 have fin:a1.defers = []∧∃ u,(results fn a1.tmps).run P w1 = .ok u w1∧∃ cv v h',Ending.returned u = .returned cv∧Ψ v h'∧After pl M hp w v h' cv w1:=
  ⟨g3.defers,cv,k1,cv,_,_,rfl,hΨ,pl2,M2,q1,q2,q3,q4⟩
 cases e with
 | exit id=>exact absurd rfl (hne id)
 | normal=>exact fin
 | ret=>exact fin
theorem finK_ok (hG:GTop G) {res:List ResultVar} {Ψ:AV→AHeap→Prop} {e:AExit} {d:D} (hn:s.tmps.n≤60000) (h:finK P m res Ψ e d s) :
  (∀ id,e≠ .exit id)∧∃ s',Weak G (some m) s s'∧∃ v,oneOrTuple (resultsR P res s'.tmps s'.heap)=some v∧Ψ v s'.heap:=by
 have key:pre m d s (fun _ s=>match oneOrTuple (resultsR P res s.tmps s.heap) with | some u=>Ψ u s.heap | none=>False)→∃ s',Weak G (some m) s s'∧∃ v,oneOrTuple (resultsR P res s'.tmps s'.heap)=some v∧Ψ v s'.heap:=by
  intro h
  refine pre_ok hG hn h fun d' s' _ hW h=>⟨s',hW,?_⟩
  split at h
  ·rename_i u q;exact ⟨u,q,h⟩
  ·exact h.elim
 cases e with
 | exit id=>exact h.elim
 | normal=>exact ⟨fun id h=>(by cases h),key h⟩
 | ret=>exact ⟨fun id h=>(by cases h),key h⟩
theorem HCall.walk {hp : AHeap} {fn : Func} {Ψ : AV → AHeap → Prop} {W : Prop} (pol : Nat) (hm : P.follows .mixedOrders = true) (hG : GTop G) (hc : CallerOK P G call) (hf : P.funcs[f]? = some fn) (hN : (fn.name == "runtime.NumGoroutine") = false) (hb : fn.body = some c)
  (hn:Nat.ble args.length fn.ntmps=true∧Nat.ble fn.ntmps 60000=true) (d:D) (p:W)
  (e:W=(WP P G call hp.n c).run d ⟨⟨fn.ntmps,argsFr fn.ntmps args 0 .nil⟩,hp⟩ (finK P hp.n fn.results.toList fun v h=>Ψ (leave pol hp.n v h).1 (leave pol hp.n v h).2)):HCall P G f args hp Ψ:=
 HCall.enterW pol hf hN hb hn (WP_ok hm hG hc c d _ _ _ (e ▸ p) fun _ _ _ hn h=>finK_ok hG hn h)
theorem HPure.walk {fn : Func} {W : Prop} (hm : P.follows .mixedOrders = true) (hG : GTop G) (hc : CallerOK P G call) (ht : AV.tops args = 0) (hv : v.top = 0) (hf : P.funcs[f]? = some fn) (hN : (fn.name == "runtime.NumGoroutine") = false) (hb : fn.body = some c)
  (hn:Nat.ble args.length fn.ntmps=true∧Nat.ble fn.ntmps 60000=true) (d:D) (p:W)
  (e:W=(WP P G call 0 c).run d ⟨⟨fn.ntmps,argsFr fn.ntmps args 0 .nil⟩,AHeap.none⟩ (finK P 0 fn.results.toList fun u h=>Le v (leave 0 0 u h).1)):HPure P G f args v:=
 HPure.of0 hG ht hv (HCall.less (HCall.walk (Ψ:=fun v1 _=>Le v v1) (call:=call) 0 hm hG hc hf hN hb hn d p e) fun v1 h' e=>⟨v,e,rfl⟩)
end
end Go.Ev

namespace Go.Ev
open Go
abbrev By (x v:Bool):Prop:=x=v
theorem et {a b:Prop} (h:a) (k:b):a∧b:=⟨h,k⟩
theorem bnT {b:Bool} (h:b=false):bnot b=true:=by rw [h];rfl
theorem bnF {b:Bool} (h:b=true):bnot b=false:=by rw [h];rfl
theorem Le.of_eq {u v:AV} (h:u=v):Le u v:=by rw [h];exact Le.refl _
theorem Le.int {k:IntKind} {a b:Int} (h:a=b):Le (.int k a) (.int k b):=by rw [h];exact Le.refl _
theorem Le.ieq {k:IntKind} {a b:Int} (h:b=a):Le (.int k a) (.int k b):=by rw [h];exact Le.refl _
theorem Le.bool {a b:Bool} (h:a=b):Le (.bool a) (.bool b):=by rw [h];exact Le.refl _
theorem Le.str {a b:List UInt8} (h:a=b):Le (.str a) (.str b):=by rw [h];exact Le.refl _
theorem Le.lsn {xs:List AV} (h:xs = []):Le (.ls xs) .nils:=by rw [h];exact Le.nils
theorem Le.lsp {xs ys:List AV} {t:Bool} (h:xs=ys) (h0:AV.tops ys=0):Le (.ls xs) (.ps ys t):=by rw [h];exact Le.ps _ _ h0
theorem app_in {sz b id ep len:Nat} {op:Bool} {h:AHeap} {xs new xs':List AV} {x:AV} (hg:h.get id=some (.row sz op ep xs)) (hx:srcR h x=some new) (hf:fits sz new=true) (hne:new≠ []) (hl:len+new.length≤xs.length) (hw:writeAt xs len new=xs') (hs:small (len+new.length) b=true) :
  retH (appendO sz b h (some (.slice id ep 0 len none)) (some x))=some (.val (.slice id ep 0 (len+new.length) none) (h.put id (.row sz op ep xs'))):=by
 cases new with
 | nil=>exact absurd rfl hne
 | cons y ys=>
  have e1:Nat.beq ep ep=true:=Nat.beq_refl ep
  have e2:Nat.beq sz sz=true:=Nat.beq_refl sz
  have e3:Nat.ble (len+(y::ys).length) xs.length=true:=Nat.ble_eq_true_of_le hl
  simp only [appendO,appendV,hx,appendR,hf,hg,e1,e2,hs,Bool.and_self,Nat.zero_add,e3,hw,retH]
theorem app_over {sz b id ep len:Nat} {h:AHeap} {xs new xs':List AV} {x:AV} (hg:h.get id=some (.row sz true ep xs)) (hx:srcR h x=some new) (hf:fits sz new=true) (hne:new≠ []) (hl:xs.length<len+new.length) (hw:xs.take len++new=xs') (hs:small (len+new.length) b=true) :
  retH (appendO sz b h (some (.slice id ep 0 len none)) (some x))=some (.val (.slice id (ep+1) 0 (len+new.length) none) (h.put id (.row sz true (ep+1) xs'))):=by
 cases new with
 | nil=>exact absurd rfl hne
 | cons y ys=>
  have e1:Nat.beq ep ep=true:=Nat.beq_refl ep
  have e2:Nat.beq sz sz=true:=Nat.beq_refl sz
  have e3:Nat.ble (0+len+(y::ys).length) xs.length=false:=by rw [ble_iff];simp only [decide_eq_false_iff_not];omega
  simp only [appendO,appendV,hx,appendR,hf,hg,e1,e2,hs,Bool.and_self,e3,hw,retH]
theorem srcR_all {id ep len sz:Nat} {op:Bool} {cap:Option Nat} {h:AHeap} {xs:List AV} (hg:h.get id=some (.row sz op ep xs)) (hl:len=xs.length):srcR h (.slice id ep 0 len cap)=some xs:=by
 have e1:Nat.beq ep ep=true:=Nat.beq_refl ep
 subst hl
 simp only [srcR,elemsR,hg,e1,List.drop_zero,List.take_length]
theorem app_rest {sz b id ep off len:Nat} {op:Bool} {cap:Option Nat} {h:AHeap} {xs ys:List AV} (hg:h.get id=some (.row sz op ep xs)) (hl:off+len=xs.length) (hy:xs.drop off=ys) (hf:fits sz ys=true) (hp:0<len) (hs:small len b=true) :
  retH (appendO sz b h (some (.ps [] true)) (some (.slice id ep off len cap)))=some (.val (.slice h.n 0 0 len none) (h.push (.row sz true 0 ys))):=by
 have e1:Nat.beq ep ep=true:=Nat.beq_refl ep
 have e2:(xs.drop off).take len=ys:=by rw [← hy];exact List.take_of_length_le (by rw [List.length_drop];omega)
 have e3:ys.length=len:=by rw [← hy,List.length_drop];omega
 cases ys with
 | nil=>simp at e3;omega
 | cons y r=>
  have e4:small (([]:List AV).length+len) b=true:=by rw [List.length_nil,Nat.zero_add];exact hs
  have e5:fits sz ([]:List AV)=true:=rfl
  simp only [appendO,appendV,srcR,elemsR,hg,e1,e2,appendR,hf,e5,newRowR,List.nil_append,e3,e4,Bool.and_self,retH]
theorem app_rest0 {sz b id ep off len:Nat} {op:Bool} {cap:Option Nat} {h:AHeap} {xs:List AV} (hg:h.get id=some (.row sz op ep xs)) (hp:len=0) :
  retH (appendO sz b h (some (.ps [] true)) (some (.slice id ep off len cap)))=some (.val (.ps [] true) h):=by
 have e1:Nat.beq ep ep=true:=Nat.beq_refl ep
 subst hp
 simp only [appendO,appendV,srcR,elemsR,hg,e1,appendR,List.take_zero,retH]
theorem app_none {α:Type} {f:α→AV} {l:List α} {sz b id ep off len:Nat} {cap:Option Nat} {h:AHeap} (hp:l.length=0) :
  retH (appendO sz b h (some (.slice id ep off len cap)) (some (.ls (l.map f))))=some (.val (.slice id ep off len cap) h):=by
 cases l with
 | nil=>rfl
 | cons a r=>cases hp
theorem app_noneP {α:Type} {f:α→AV} {l:List α} {sz b:Nat} {xs:List AV} {t:Bool} {h:AHeap} (hp:l.length=0) :
  retH (appendO sz b h (some (.ps xs t)) (some (.ls (l.map f))))=some (.val (.ps xs t) h):=by
 cases l with
 | nil=>rfl
 | cons a r=>cases hp
theorem write_set {α:Type} {f g:α→AV} (e : ∀ x,f x=g x) {l:List α} {k:Nat} {w:α} (h:k<l.length):writeAt (l.map f) k [g w]=(l.set k w).map f:=by
 unfold writeAt
 rw [List.map_set,e w,List.length_singleton]
 have h':k<(l.map f).length:=by rw [List.length_map];exact h
 rw [List.append_assoc,List.set_eq_take_append_cons_drop,if_pos h'];rfl
theorem take_map {α:Type} {f:α→AV} {l m:List α} {k:Nat} : (l.map f).take k++m.map f=(l.take k++m).map f:=by rw [List.map_append,List.map_take]
theorem drop_map {α:Type} {f:α→AV} {l:List α} {k:Nat} : (l.map f).drop k=(l.drop k).map f:=(List.map_drop ..).symm
theorem Le.lsl {xs ys:List AV} (h:xs=ys):Le (.ls xs) (.ls ys):=by rw [h];exact Le.refl _
theorem Le.aggB {us vs:List AV} (h:Les us vs) (hs:us.all scalB=true):Le (.agg us) (.agg vs):=Le.agg h fun u hu=>List.all_eq_true.1 hs u hu
theorem mx00:Nat.mx 0 0=0:=rfl
theorem tops_map {α:Type} {f:α→AV} (h : ∀ x,(f x).top=0) : ∀ (l:List α),AV.tops (l.map f)=0
 | []=>rfl
 | x::r=>by simp only [List.map_cons,AV.tops,h x,tops_map h r,mx00]
theorem ltI_true {a b:Int} (h:ltI a b=true):a<b:=by rw [ltI_lt] at h;exact of_decide_eq_true h
theorem ltI_false {a b:Int} (h:ltI a b=false):b≤a:=by rw [ltI_lt] at h;have:=of_decide_eq_false h;omega
theorem ltI_t {a b:Int} (h:a<b):ltI a b=true:=by rw [ltI_lt];exact decide_eq_true h
theorem ltI_f {a b:Int} (h:b≤a):ltI a b=false:=by rw [ltI_lt];exact decide_eq_false (by omega)
theorem eqI_iff {a b:Int} : eqI a b=decide (a=b):=by
 cases a with
 | ofNat a=>cases b with
  | ofNat b=>
   simp only [eqI,beq_iff]
   by_cases h:a=b
   ·subst h;simp
   ·rw [decide_eq_false h,decide_eq_false (fun k=>h (Int.ofNat.inj k))]
  | negSucc b=>exact (decide_eq_false (fun h=>by cases h)).symm
 | negSucc a=>cases b with
  | ofNat b=>exact (decide_eq_false (fun h=>by cases h)).symm
  | negSucc b=>
   simp only [eqI,beq_iff]
   by_cases h:a=b
   ·subst h;simp
   ·rw [decide_eq_false h,decide_eq_false (fun k=>h (Int.negSucc.inj k))]
theorem eqI_t {a b:Int} (h:eqI a b=true):a=b:=by rw [eqI_iff] at h;exact of_decide_eq_true h
theorem eqI_f {a b:Int} (h:eqI a b=false):a≠b:=by rw [eqI_iff] at h;exact of_decide_eq_false h
theorem wrap_in {x:Int} (h1 : -(2 ^ 63)≤x) (h2:x<2 ^ 63):IntKind.i64.wrap x=x:=by
 by_cases h:0≤x
 ·have e:x % 2 ^ 64=x:=Int.emod_eq_of_lt h (by omega)
  simp only [IntKind.wrap,IntKind.bits,IntKind.signed,e]
  simp
  intro h3;omega
 ·have e:x % 2 ^ 64=x+2 ^ 64:=by omega
  simp only [IntKind.wrap,IntKind.bits,IntKind.signed,e]
  simp
  omega
theorem Le.wr {x:Int} (h : -(2 ^ 63)≤x∧x<2 ^ 63):Le (.int .i64 x) (.int .i64 (IntKind.i64.wrap x)):=by rw [wrap_in h.1 h.2];exact Le.refl _
def gD {α:Type} [Inhabited α] (l:List α) (i:Nat):α:=l.getD i default
theorem nth_at {α:Type} [Inhabited α] {l:List α} {i:Nat} (enc:α→AV) (h:i<l.length):nth (l.map enc) i=some (enc (gD l i)):=by
 rw [nth_map,nth_get,List.getElem?_eq_getElem h]
 simp [gD,List.getD,List.getElem?_eq_getElem h]
theorem gD_mem {α:Type} [Inhabited α] {l:List α} {i:Nat} (h:i<l.length):gD l i∈l:=by
 simp [gD,List.getD,List.getElem?_eq_getElem h]
theorem Le.nat {x:Int} (h:0≤x):Le (.int .i64 (Int.ofNat x.toNat)) (.int .i64 x):=by
 rw [show Int.ofNat x.toNat=x from Int.toNat_of_nonneg h];exact Le.refl _
theorem Le.len {α:Type} {f:α→AV} {l:List α} : Le (.int .i64 (Int.ofNat l.length)) (.int .i64 (Int.ofNat (l.map f).length)):=by rw [List.length_map];exact Le.refl _
theorem bS:(∀ b:Bool,(b && true)=b)∧(∀ b:Bool,(true && b)=b)∧(∀ b:Bool,(b && false)=false)∧(∀ b:Bool,(false && b)=false)∧(∀ b:Bool,(b || true)=true)∧(∀ b:Bool,(true || b)=true)∧
  (∀ b:Bool,(b || false)=b)∧(∀ b:Bool,(false || b)=b)∧(!true)=false∧(!false)=true:=by decide
theorem aS {α:Type} {p:α→Bool} : List.all [] p=true∧∀ x r,List.all (x::r) p=(p x && List.all r p):=⟨rfl,fun _ _=>rfl⟩
section
variable {α A : Type} {l r t : List α} {i : Nat} {w : α} {enc : α → AV} {J : List α → A → Prop} {a : A}
theorem drop_lt (h:l.drop i=w::t):i<l.length:=by
 have:=congrArg List.length h
 simp only [List.length_drop,List.length_cons] at this
 omega
theorem rng_nil (h:l.drop i=r) (hr:r = []):ltI (Int.ofNat i) (Int.ofNat l.length)=false:=by
 subst hr
 refine ltI_not ?_
 have:=congrArg List.length h
 simp only [List.length_drop,List.length_nil] at this
 omega
theorem rng_lt (h:l.drop i=r) (hr:r=w::t):ltI (Int.ofNat i) (Int.ofNat l.length)=true:=by
 subst hr;exact ltI_of (drop_lt h)
theorem rng_nth (h:l.drop i=r) (hr:r=w::t):nth (l.map enc) i=some (enc w):=by
 subst hr
 rw [nth_map,nth_get]
 have:(l.drop i)[0]? = some w:=by rw [h];rfl
 rw [List.getElem?_drop] at this
 simp only [Nat.add_zero] at this
 rw [this];rfl
theorem rng_succ (h:l.drop i=r) (hr:r=w::t):l.drop (i+1)=t:=by
 subst hr
 have:=congrArg (List.drop 1) h
 rw [List.drop_drop] at this
 simpa using this
theorem rng_m (hr:r=w::t):t.length<r.length:=by subst hr;simp
theorem rng_j0 (hr:r = []) (h:J r a):J [] a:=hr ▸ h
theorem rng_j1 (hr:r=w::t) (h:J r a):J (w::t) a:=hr ▸ h
theorem rng_len (h:l.drop i=r) (hr:r=w::t):t.length+1≤l.length:=by
 subst hr
 have:=congrArg List.length h
 simp only [List.length_drop,List.length_cons] at this
 omega
theorem rng_mem (h:l.drop i=r) (hr:r=w::t):w∈l:=by
 subst hr;exact List.mem_of_mem_drop (by rw [h];simp)
end
section
def entsI {V:Type} (f:V→AV):List (Int × V)→Nat→List AEnt
 | [],_=> []
 | (k,v)::r,i=>⟨.int .i64 k,f v,i⟩::entsI f r (i+1)
def getI {V:Type} (k:Int):List (Int × V)→Option V
 | []=>none
 | (j,v)::r=>match eqI k j with | true=>some v | false=>getI k r
def setI {V:Type} (k:Int) (v:V):List (Int × V)→List (Int × V)
 | []=> [(k,v)]
 | (j,u)::r=>match eqI k j with | true=>(j,v)::r | false=>(j,u)::setI k v r
variable {V : Type} {f : V → AV}
theorem find_entsI (k:Int) : ∀ (l:List (Int × V)) (i:Nat),findEnt false 1 [(0,1)] (.int .i64 k) (entsI f l i) i=some (match getI k l with | none=>none | some v=>some (i+(l.takeWhile fun p=>!(eqI k p.1)).length,⟨.int .i64 k,f v,i+(l.takeWhile fun p=>!(eqI k p.1)).length⟩))
 | [],i=>rfl
 | (j,v)::r,i=>by
  simp only [entsI,findEnt,keyEq,eqS,kindB,getI]
  cases h:eqI k j with
  | true=>
   have hk:=eqI_t h
   subst hk
   simp [findThen,List.takeWhile,h]
  | false=>
   simp only [findThen,find_entsI k r (i+1),List.takeWhile,h,Bool.not_false]
   cases getI k r with
   | none=>rfl
   | some u=>simp only [List.length_cons];rw [show ∀ d,i+1+d=i+(d+1) from fun d=>by omega]
theorem look_entsI (z:Option AV) (k:Int) (l:List (Int × V)):lookupE z false (findEnt false 1 [(0,1)] (.int .i64 k) (entsI f l 0) 0)=match getI k l with | none=>z | some v=>some (f v):=by
 rw [find_entsI]
 cases getI k l with
 | none=>cases z <;> rfl
 | some v=>rfl
theorem entsI_append (l r:List (Int × V)) : ∀ (i:Nat),entsI f (l++r) i=entsI f l i++entsI f r (i+l.length):=by
 induction l with
 | nil=>intro i;rfl
 | cons x l ih=>
  intro i
  obtain ⟨j,v⟩:=x
  simp only [List.cons_append,entsI,ih,List.length_cons,List.cons.injEq,true_and,List.append_cancel_left_eq]
  congr 1;omega
theorem setI_none {k:Int} {v:V} : ∀ {l:List (Int × V)},getI k l=none→setI k v l=l++ [(k,v)]
 | [],_=>rfl
 | (j,u)::r,h=>by
  simp only [getI] at h
  cases q:eqI k j with
  | true=>rw [q] at h;cases h
  | false=>rw [q] at h;simp only [setI,q,List.cons_append,setI_none h]
theorem setI_len {k:Int} {v u:V} : ∀ {l:List (Int × V)},getI k l=some u→(setI k v l).length=l.length
 | (j,w)::r,h=>by
  simp only [getI] at h
  cases q:eqI k j with
  | true=>simp only [setI,q,List.length_cons]
  | false=>rw [q] at h;simp only [setI,q,List.length_cons,setI_len h]
theorem entsI_set {k:Int} {v u:V} : ∀ {l:List (Int × V)} (i:Nat),getI k l=some u→
  (entsI f l i).set (l.takeWhile fun p=>!(eqI k p.1)).length ⟨.int .i64 k,f v,i+(l.takeWhile fun p=>!(eqI k p.1)).length⟩=entsI f (setI k v l) i
 | (j,w)::r,i,h=>by
  simp only [getI] at h
  cases q:eqI k j with
  | true=>have hk:=eqI_t q;subst hk;simp [entsI,setI,List.takeWhile,q]
  | false=>
   rw [q] at h
   simp only [entsI,setI,List.takeWhile,q,Bool.not_false,List.length_cons,List.set_cons_succ,List.cons.injEq,true_and]
   rw [← entsI_set (i+1) h]
   congr 2
   all_goals (first | rfl | omega)
theorem upd_entsI (k:Int) (v:V) (l:List (Int × V)):updE (entsI f l 0) l.length (.int .i64 k) (f v) (findEnt false 1 [(0,1)] (.int .i64 k) (entsI f l 0) 0)=some (entsI f (setI k v l) 0,(setI k v l).length):=by
 rw [find_entsI]
 cases h:getI k l with
 | none=>
  simp only [updE,setI_none h,entsI_append,entsI,List.length_append,List.length_singleton,Nat.zero_add]
 | some u=>
  have:=entsI_set (f:=f) (v:=v) 0 h
  simp only [Nat.zero_add] at this ⊢
  simp only [updE,keySame,plainSame,kindB,eqI_refl,Bool.and_self,this,setI_len h]
theorem entsI_top (hf : ∀ v,(f v).top=0) : ∀ (l:List (Int × V)) (i:Nat),entTops (entsI f l i)=0
 | [],_=>rfl
 | (j,v)::r,i=>by simp only [entsI,entTops,AV.top,hf v,entsI_top hf r,mx00]
end
theorem topRow {sz ep n:Nat} {op:Bool} {xs:List AV} (h:AV.tops xs=0):Nat.ble (AObj.row sz op ep xs).top n=true:=by rw [AObj.top,h];exact Nat.ble_eq_true_of_le (Nat.zero_le _)
theorem topMap {c n:Nat} {es:List AEnt} (h:entTops es=0):Nat.ble (AObj.map es c).top n=true:=by rw [AObj.top,h];exact Nat.ble_eq_true_of_le (Nat.zero_le _)
theorem topRow0 {sz ep:Nat} {op:Bool} {xs:List AV} (h:AV.tops xs=0):(AObj.row sz op ep xs).top=0:=h
theorem topMap0 {c:Nat} {es:List AEnt} (h:entTops es=0):(AObj.map es c).top=0:=h
theorem setMap {α:Type} {f:α→AV} {l:List α} {i:Nat} {w:α} : (l.map f).set i (f w)=(l.set i w).map f:=by rw [List.map_set]
theorem half (n:Nat):(Int.ofNat n).fdiv (2 ^ min 1 IntKind.u64.bits)=Int.ofNat (n / 2):=by
 have e:(2:Int) ^ min 1 IntKind.u64.bits=2:=rfl
 rw [e,Int.ofNat_eq_natCast,Int.fdiv_eq_ediv_of_nonneg _ (by omega)];simp
theorem fits_map {α:Type} {f:α→AV} {sz:Nat} (h : ∀ x,(Nat.beq (f x).cells.length sz && flatB (f x))=true) : ∀ (l:List α),fits sz (l.map f)=true
 | []=>rfl
 | x::r=>by rw [List.map_cons,fits,h,fits_map h r];rfl
theorem mapAppL {α:Type} {f:α→AV} {l ws:List α} : l.map f++ws.map f=(l++ws).map f:=by simp
theorem takeN {α:Type} {f:α→AV} {l:List α} {n:Nat} : ((l.map f).drop 0).take n=(l.take n).map f:=by rw [List.drop_zero,List.map_take]
theorem takeAll {α:Type} {f:α→AV} {l:List α} {n:Nat} (h:l.length=n):((l.map f).drop 0).take n=l.map f:=by rw [List.drop_zero,← h,← List.length_map (f:=f),List.take_length]
theorem headSz_map {α:Type} {f:α→AV} {s:Nat} (h : ∀ x,Nat.beq (f x).cells.length s=true) : ∀ (l:List α),headSz s (l.map f)=true
 | []=>rfl
 | x::_=>h x
theorem slp_a {α:Type} {f:α→AV} {l:List α} {k:Nat} : ((l.map f).take (l.map f).length).drop k=(l.drop k).map f:=by rw [List.take_length,List.map_drop]
theorem slp_t {α:Type} {f:α→AV} {l:List α} {h:Nat} : ((l.map f).take h).drop 0=(l.take h).map f:=by rw [List.drop_zero,List.map_take]
theorem slp_all {α:Type} {f:α→AV} {l:List α} : ((l.map f).take (l.map f).length).drop 0=l.map f:=by rw [List.take_length,List.drop_zero]
theorem andT {a b:Bool} (ha:a=true) (hb:b=true):(a && b)=true:=by rw [ha,hb];rfl
theorem Le.wn {x:Int} {n:Nat} (h:x=Int.ofNat n∧n<2 ^ 62):Le (.int .i64 (Int.ofNat n)) (.int .i64 (IntKind.i64.wrap x)):=by
 have e:x=(n:Int):=h.1
 subst e
 rw [wrap_in (by omega) (by omega)];exact Le.refl _
theorem Le.wu {x:Int} {n:Nat} (h:x=Int.ofNat n∧n<2 ^ 62):Le (.int .u64 (Int.ofNat n)) (.int .u64 (IntKind.u64.wrap x)):=by
 have e:x=(n:Int):=h.1
 subst e
 have e2:((n:Int)) % 2 ^ 64=(n:Int):=Int.emod_eq_of_lt (by omega) (by omega)
 simp only [IntKind.wrap,IntKind.bits,IntKind.signed,e2]
 exact Le.refl _
end Go.Ev

namespace Go.Ev
open Go
abbrev Str:=List UInt8
structure PWord where
 text:Str
 act:Int
 item:Int
 at_:Int
 deriving Inhabited
inductive TUnit where
 | mk (act item n kind:Int) (label:Str) (head words:List PWord) (kids:List TUnit)
 deriving Inhabited
namespace TUnit
def act:TUnit→Int | ⟨a,_,_,_,_,_,_,_⟩=>a
def item:TUnit→Int | ⟨_,a,_,_,_,_,_,_⟩=>a
def n:TUnit→Int | ⟨_,_,a,_,_,_,_,_⟩=>a
def kind:TUnit→Int | ⟨_,_,_,a,_,_,_,_⟩=>a
def label:TUnit→Str | ⟨_,_,_,_,a,_,_,_⟩=>a
def head:TUnit→List PWord | ⟨_,_,_,_,_,a,_,_⟩=>a
def words:TUnit→List PWord | ⟨_,_,_,_,_,_,a,_⟩=>a
def kids:TUnit→List TUnit | ⟨_,_,_,_,_,_,_,a⟩=>a
end TUnit
structure PStep where
 kind:Int
 label:Str
 deriving Inhabited
structure PStart where
 kind:Int
 day:Int
 event:Str
 deriving Inhabited
inductive PItem where
 | mk (kind:Int) (at_ to:List PStep) (where_ nth_:Int) (unit:TUnit) (old new:List Str) (label for_:Str) (start:PStart) (act item day:Int) (event:Str) (by_:List PItem)
 deriving Inhabited
namespace PItem
def kind:PItem→Int | ⟨a,_,_,_,_,_,_,_,_,_,_,_,_,_,_,_⟩=>a
def at_:PItem→List PStep | ⟨_,a,_,_,_,_,_,_,_,_,_,_,_,_,_,_⟩=>a
def to:PItem→List PStep | ⟨_,_,a,_,_,_,_,_,_,_,_,_,_,_,_,_⟩=>a
def where_:PItem→Int | ⟨_,_,_,a,_,_,_,_,_,_,_,_,_,_,_,_⟩=>a
def nth_:PItem→Int | ⟨_,_,_,_,a,_,_,_,_,_,_,_,_,_,_,_⟩=>a
def unit:PItem→TUnit | ⟨_,_,_,_,_,a,_,_,_,_,_,_,_,_,_,_⟩=>a
def old:PItem→List Str | ⟨_,_,_,_,_,_,a,_,_,_,_,_,_,_,_,_⟩=>a
def new:PItem→List Str | ⟨_,_,_,_,_,_,_,a,_,_,_,_,_,_,_,_⟩=>a
def label:PItem→Str | ⟨_,_,_,_,_,_,_,_,a,_,_,_,_,_,_,_⟩=>a
def for_:PItem→Str | ⟨_,_,_,_,_,_,_,_,_,a,_,_,_,_,_,_⟩=>a
def start:PItem→PStart | ⟨_,_,_,_,_,_,_,_,_,_,a,_,_,_,_,_⟩=>a
def act:PItem→Int | ⟨_,_,_,_,_,_,_,_,_,_,_,a,_,_,_,_⟩=>a
def item:PItem→Int | ⟨_,_,_,_,_,_,_,_,_,_,_,_,a,_,_,_⟩=>a
def day:PItem→Int | ⟨_,_,_,_,_,_,_,_,_,_,_,_,_,a,_,_⟩=>a
def event:PItem→Str | ⟨_,_,_,_,_,_,_,_,_,_,_,_,_,_,a,_⟩=>a
def by_:PItem→List PItem | ⟨_,_,_,_,_,_,_,_,_,_,_,_,_,_,_,a⟩=>a
end PItem
structure PAct where
 number:Int
 title:Str
 day:Int
 start:PStart
 items:List PItem
 deriving Inhabited
structure PGaz where
 number:Int
 day:Int
 prior:Str
 acts:List PAct
 deriving Inhabited
structure PDeed where
 act:Int
 item:Int
 day:Int
 it:PItem
 deriving Inhabited
structure PSpan where
 from_:Int
 to:Int
 deriving Inhabited
structure PFail where
 act:Int
 item:Int
 why:Int
 deriving Inhabited
noncomputable section
def encStr (s:Str):AV:= .str s
def encInt (n:Int):AV:= .int .i64 n
def encWord (w:PWord):AV:= .agg [.str w.text, .int .i64 w.act, .int .i64 w.item, .int .i64 w.at_]
mutual
def cellsU:TUnit→List AV
 | ⟨a,i,n,k,l,h,w,ks⟩=> [.int .i64 a, .int .i64 i, .int .i64 n, .int .i64 k, .str l, .ls (h.map encWord), .ls (w.map encWord), .ls (encUs ks)]
def encUs:List TUnit→List AV
 | []=> []
 | u::r=> .agg (cellsU u)::encUs r
end
def encU (u:TUnit):AV:= .agg (cellsU u)
def encStep (s:PStep):AV:= .agg [.int .i64 s.kind, .str s.label]
def cellsStart (s:PStart):List AV:= [.int .i64 s.kind, .int .i64 s.day, .str s.event]
def encStart (s:PStart):AV:= .agg (cellsStart s)
mutual
def cellsI:PItem→List AV
 | ⟨k,a,t,w,nn,u,o,n,lb,fo,st,ac,it,dy,ev,by_⟩=> [.int .i64 k, .ls (a.map encStep), .ls (t.map encStep), .int .i64 w, .int .i64 nn]++cellsU u++ [.ls (o.map encStr), .ls (n.map encStr), .str lb, .str fo]++cellsStart st++ [.int .i64 ac, .int .i64 it, .int .i64 dy, .str ev, .ls (encIs by_)]
def encIs:List PItem→List AV
 | []=> []
 | u::r=> .agg (cellsI u)::encIs r
end
def encI (x:PItem):AV:= .agg (cellsI x)
def cU (u:TUnit):List AV:= [.int .i64 u.act, .int .i64 u.item, .int .i64 u.n, .int .i64 u.kind, .str u.label, .ls (u.head.map encWord), .ls (u.words.map encWord), .ls (u.kids.map encU)]
def eU (u:TUnit):AV:= .agg (cU u)
def cI (x:PItem):List AV:= [.int .i64 x.kind, .ls (x.at_.map encStep), .ls (x.to.map encStep), .int .i64 x.where_, .int .i64 x.nth_,
 .int .i64 x.unit.act, .int .i64 x.unit.item, .int .i64 x.unit.n, .int .i64 x.unit.kind, .str x.unit.label, .ls (x.unit.head.map encWord), .ls (x.unit.words.map encWord), .ls (x.unit.kids.map encU),
 .ls (x.old.map encStr), .ls (x.new.map encStr), .str x.label, .str x.for_, .int .i64 x.start.kind, .int .i64 x.start.day, .str x.start.event, .int .i64 x.act, .int .i64 x.item, .int .i64 x.day, .str x.event, .ls (x.by_.map encI)]
def eI (x:PItem):AV:= .agg (cI x)
def encAct (a:PAct):AV:= .agg [.int .i64 a.number, .str a.title, .int .i64 a.day, .int .i64 a.start.kind, .int .i64 a.start.day, .str a.start.event, .ls (a.items.map encI)]
def encGaz (g:PGaz):AV:= .agg [.int .i64 g.number, .int .i64 g.day, .str g.prior, .ls (g.acts.map encAct)]
def encDeed (d:PDeed):AV:= .agg (.int .i64 d.act:: .int .i64 d.item:: .int .i64 d.day::cI d.it)
def encSpan (s:PSpan):AV:= .agg [.int .i64 s.from_, .int .i64 s.to]
end
theorem encUs_eq : ∀ (l:List TUnit),encUs l=l.map encU
 | []=>by rw [encUs];rfl
 | u::r=>by rw [encUs,encUs_eq r];rfl
theorem encIs_eq : ∀ (l:List PItem),encIs l=l.map encI
 | []=>by rw [encIs];rfl
 | u::r=>by rw [encIs,encIs_eq r];rfl
theorem encU_eq (u:TUnit):encU u=eU u:=by
 obtain ⟨a,i,n,k,l,h,w,ks⟩:=u
 rw [encU,cellsU,encUs_eq];rfl
theorem encI_eq (x:PItem):encI x=eI x:=by
 obtain ⟨k,a,t,w,nn,⟨ua,ui,un,uk,ul,uh,uw,uks⟩,o,n,lb,fo,st,ac,it,dy,ev,by_⟩:=x
 rw [encI,cellsI,cellsU,encIs_eq,encUs_eq];rfl
theorem encWord_top (w:PWord):(encWord w).top=0:=rfl
theorem encStr_top (w:Str):(encStr w).top=0:=rfl
theorem encInt_top (w:Int):(encInt w).top=0:=rfl
theorem encStep_top (w:PStep):(encStep w).top=0:=rfl
theorem encSpan_top (w:PSpan):(encSpan w).top=0:=rfl
theorem eI_top (u:PItem):(eI u).top=0:=rfl
theorem encU_top (u:TUnit):(encU u).top=0:=by rw [encU_eq];rfl
theorem encI_top (u:PItem):(encI u).top=0:=by rw [encI_eq];rfl
theorem encAct_top (w:PAct):(encAct w).top=0:=rfl
theorem encGaz_top (w:PGaz):(encGaz w).top=0:=rfl
theorem encDeed_top (w:PDeed):(encDeed w).top=0:=rfl
mutual
def fitU:TUnit→Prop
 | ⟨_,_,_,_,_,h,w,kids⟩=>h.length<2 ^ 60∧w.length<2 ^ 60∧kids.length<2 ^ 60∧fitUs kids
def fitUs:List TUnit→Prop
 | []=>True
 | u::r=>fitU u∧fitUs r
end
theorem fitUs_iff : ∀ {l:List TUnit},fitUs l↔∀ u,u∈l→fitU u
 | []=>by simp [fitUs]
 | v::r=>by simp [fitUs,fitUs_iff (l:=r)]
mutual
def fitI:PItem→Prop
 | ⟨_,a,t,_,_,u,o,n,_,_,_,_,_,_,_,by_⟩=>a.length<2 ^ 60∧t.length<2 ^ 60∧o.length<2 ^ 60∧n.length<2 ^ 60∧by_.length<2 ^ 60∧fitU u∧fitIs by_
def fitIs:List PItem→Prop
 | []=>True
 | u::r=>fitI u∧fitIs r
end
theorem fitIs_iff : ∀ {l:List PItem},fitIs l↔∀ u,u∈l→fitI u
 | []=>by simp [fitIs]
 | v::r=>by simp [fitIs,fitIs_iff (l:=r)]
theorem fitU_iff {u:TUnit} : fitU u↔u.head.length<2 ^ 60∧u.words.length<2 ^ 60∧u.kids.length<2 ^ 60∧∀ k,k∈u.kids→fitU k:=by
 obtain ⟨a,i,n,k,l,h,w,ks⟩:=u
 rw [fitU,fitUs_iff];exact Iff.rfl
theorem fitI_iff {x:PItem} : fitI x↔x.at_.length<2 ^ 60∧x.to.length<2 ^ 60∧x.old.length<2 ^ 60∧x.new.length<2 ^ 60∧x.by_.length<2 ^ 60∧fitU x.unit∧∀ k,k∈x.by_→fitI k:=by
 obtain ⟨k,a,t,w,nn,u,o,n,lb,fo,st,ac,it,dy,ev,by_⟩:=x
 rw [fitI,fitIs_iff];exact Iff.rfl
def fitA (a:PAct):Prop:=a.items.length<2 ^ 60∧∀ x,x∈a.items→fitI x
def fitG (g:PGaz):Prop:=g.acts.length<2 ^ 60∧∀ a,a∈g.acts→fitA a
def fitGs (gs:List PGaz):Prop:=gs.length<2 ^ 60∧∀ g,g∈gs→fitG g
theorem TUnit.kid_lt {u k:TUnit} (h:k∈u.kids):SizeOf.sizeOf k<SizeOf.sizeOf u:=by
 obtain ⟨a,i,n,kk,l,hh,w,ks⟩:=u
 have h:k∈ks:=h
 have:=List.sizeOf_lt_of_mem h
 simp only [TUnit.mk.sizeOf_spec]
 omega
theorem PItem.by_lt {u k:PItem} (h:k∈u.by_):SizeOf.sizeOf k<SizeOf.sizeOf u:=by
 obtain ⟨kd,a,t,w,nn,uu,o,n,lb,fo,st,ac,it,dy,ev,by_⟩:=u
 have h:k∈by_:=h
 have:=List.sizeOf_lt_of_mem h
 simp only [PItem.mk.sizeOf_spec]
 omega
theorem TUnit.ind {p:TUnit→Prop} (h : ∀ u,(∀ k,k∈u.kids→p k)→p u) (u:TUnit):p u:=
 h u fun k hk=>TUnit.ind h k
termination_by SizeOf.sizeOf u
decreasing_by exact TUnit.kid_lt hk
theorem PItem.ind {p:PItem→Prop} (h : ∀ u,(∀ k,k∈u.by_→p k)→p u) (u:PItem):p u:=
 h u fun k hk=>PItem.ind h k
termination_by SizeOf.sizeOf u
decreasing_by exact PItem.by_lt hk
end Go.Ev

namespace Go.Ev
open Go
structure KeyOf (K:Type) (ag:Bool) (sz:Nat) (lv:List (Nat × Nat)) (kenc:K→AV) (keq:K→K→Bool):Prop where
 eq : ∀ a b,keyEq ag sz lv (kenc a) (kenc b)=some (keq a b)
 t : ∀ a b,keq a b=true→a=b
 refl : ∀ a,keq a a=true
 same : ∀ a,keySame (kenc a) (kenc a)=true
 top : ∀ a,(kenc a).top=0
section
variable {K V : Type} {ag : Bool} {sz : Nat} {lv : List (Nat × Nat)} {kenc : K → AV} {keq : K → K → Bool} {f : V → AV}
noncomputable def entsG (kenc:K→AV) (f:V→AV):List (K × V)→Nat→List AEnt
 | [],_=> []
 | (k,v)::r,i=>⟨kenc k,f v,i⟩::entsG kenc f r (i+1)
def getG (keq:K→K→Bool) (k:K):List (K × V)→Option V
 | []=>none
 | (j,v)::r=>match keq k j with | true=>some v | false=>getG keq k r
def setG (keq:K→K→Bool) (k:K) (v:V):List (K × V)→List (K × V)
 | []=> [(k,v)]
 | (j,u)::r=>match keq k j with | true=>(j,v)::r | false=>(j,u)::setG keq k v r
theorem find_entsG (hk:KeyOf K ag sz lv kenc keq) (k:K) : ∀ (l:List (K × V)) (i:Nat),findEnt ag sz lv (kenc k) (entsG kenc f l i) i=some (match getG keq k l with | none=>none | some v=>some (i+(l.takeWhile fun p=>!(keq k p.1)).length,⟨kenc k,f v,i+(l.takeWhile fun p=>!(keq k p.1)).length⟩))
 | [],i=>rfl
 | (j,v)::r,i=>by
  simp only [entsG,findEnt,hk.eq,getG]
  cases h:keq k j with
  | true=>
   have hj:=hk.t _ _ h
   subst hj
   simp [findThen,List.takeWhile,h]
  | false=>
   simp only [findThen,find_entsG hk k r (i+1),List.takeWhile,h,Bool.not_false]
   cases getG keq k r with
   | none=>rfl
   | some u=>simp only [List.length_cons];rw [show ∀ d,i+1+d=i+(d+1) from fun d=>by omega]
theorem look_entsG (hk:KeyOf K ag sz lv kenc keq) (z:Option AV) (ok:Bool) (k:K) (l:List (K × V)):lookupE z ok (findEnt ag sz lv (kenc k) (entsG kenc f l 0) 0)=match getG keq k l with | none=>withOk ok z false | some v=>withOk ok (some (f v)) true:=by
 rw [find_entsG hk]
 cases getG keq k l with
 | none=>rfl
 | some v=>rfl
theorem entsG_append (l r:List (K × V)) : ∀ (i:Nat),entsG kenc f (l++r) i=entsG kenc f l i++entsG kenc f r (i+l.length):=by
 induction l with
 | nil=>intro i;rfl
 | cons x l ih=>
  intro i
  obtain ⟨j,v⟩:=x
  simp only [List.cons_append,entsG,ih,List.length_cons,List.cons.injEq,true_and,List.append_cancel_left_eq]
  congr 1;omega
theorem setG_none {k:K} {v:V} : ∀ {l:List (K × V)},getG keq k l=none→setG keq k v l=l++ [(k,v)]
 | [],_=>rfl
 | (j,u)::r,h=>by
  simp only [getG] at h
  cases q:keq k j with
  | true=>rw [q] at h;cases h
  | false=>rw [q] at h;simp only [setG,q,List.cons_append,setG_none h]
theorem setG_len {k:K} {v u:V} : ∀ {l:List (K × V)},getG keq k l=some u→(setG keq k v l).length=l.length
 | (j,w)::r,h=>by
  simp only [getG] at h
  cases q:keq k j with
  | true=>simp only [setG,q,List.length_cons]
  | false=>rw [q] at h;simp only [setG,q,List.length_cons,setG_len h]
theorem entsG_set (hk:KeyOf K ag sz lv kenc keq) {k:K} {v u:V} : ∀ {l:List (K × V)} (i:Nat),getG keq k l=some u→
  (entsG kenc f l i).set (l.takeWhile fun p=>!(keq k p.1)).length ⟨kenc k,f v,i+(l.takeWhile fun p=>!(keq k p.1)).length⟩=entsG kenc f (setG keq k v l) i
 | (j,w)::r,i,h=>by
  simp only [getG] at h
  cases q:keq k j with
  | true=>have hj:=hk.t _ _ q;subst hj;simp [entsG,setG,List.takeWhile,q]
  | false=>
   rw [q] at h
   simp only [entsG,setG,List.takeWhile,q,Bool.not_false,List.length_cons,List.set_cons_succ,List.cons.injEq,true_and]
   rw [← entsG_set hk (i+1) h]
   congr 2
   all_goals (first | rfl | omega)
theorem upd_entsG (hk:KeyOf K ag sz lv kenc keq) (k:K) (v:V) (l:List (K × V)):updE (entsG kenc f l 0) l.length (kenc k) (f v) (findEnt ag sz lv (kenc k) (entsG kenc f l 0) 0)=some (entsG kenc f (setG keq k v l) 0,(setG keq k v l).length):=by
 rw [find_entsG hk]
 cases h:getG keq k l with
 | none=>
  simp only [updE,setG_none h,entsG_append,entsG,List.length_append,List.length_singleton,Nat.zero_add]
 | some u=>
  have:=entsG_set (f:=f) (v:=v) hk 0 h
  simp only [Nat.zero_add] at this ⊢
  simp only [updE,hk.same,this,setG_len h]
theorem entsG_top (hk:KeyOf K ag sz lv kenc keq) (hf : ∀ v,(f v).top=0) : ∀ (l:List (K × V)) (i:Nat),entTops (entsG kenc f l i)=0
 | [],_=>rfl
 | (j,v)::r,i=>by simp only [entsG,entTops,hk.top,hf v,entsG_top hk hf r,mx00]
variable [Inhabited K] [Inhabited V] {l : List (K × V)} {seen : List Nat}
end
section
variable {V : Type} {f : V → AV} [Inhabited V] {l : List (Int × V)} {seen : List Nat}
end
noncomputable def encII (p:Int × Int):AV:= .agg [.int .i64 p.1, .int .i64 p.2]
def eqII (a b:Int × Int):Bool:=eqI a.1 b.1 && eqI a.2 b.2
theorem keyII:KeyOf (Int × Int) true 2 [(0,1),(1,1)] encII eqII where
 eq a b:=by
  show eqL [.int .i64 a.1, .int .i64 a.2] [.int .i64 b.1, .int .i64 b.2] [(0,1),(1,1)]=_
  simp only [eqL,nth,eqO,eqS,kindB,eqII]
  cases h1:eqI a.1 b.1 <;> cases h2:eqI a.2 b.2 <;> rfl
 t a b h:=by
  simp only [eqII,Bool.and_eq_true] at h
  exact Prod.ext (eqI_t h.1) (eqI_t h.2)
 refl a:=by simp [eqII,eqI_refl]
 same a:=by simp [encII,keySame,plainSames,plainSame,kindB,eqI_refl]
 top a:=rfl
end Go.Ev

namespace Go.Ev
open Go Go.Sort Go.Proofs
section
variable {P : Program} {G : Env} {pl : Pl} {M : Mem} {h : AHeap} {w w' : World}
theorem Rep.rowNew (hr:Rep pl M h w) {id:Nat} {p:Place} {sz:Nat} {op:Bool} {ep:Nat} {xs xs':List AV} {c c':Array Value} {t:TypeId} (hp:pl id=some p) (hg:h.get id=some (.row sz op ep xs))
  (hb:w.heap[p.blk]? = some (.cells c t (0,0))) (hw:w'.heap[p.blk]? = some (.cells c' t (0,0))) (hcs:c'.size=c.size) (hlen:xs'.length=xs.length) (hel : ∀ x,x∈xs'→x.cells.length=sz∧Sc x)
  (hcell : ∀ i x j y,xs'[i]? = some x→x.cells[j]? = some y→VRel pl M y (c'.getD (i * sz+j) undef)) (hs:WSame w w') (hsz:w.heap.size≤w'.heap.size) (hk : ∀ b,b<w.heap.size→b≠p.blk→w'.heap[b]? = w.heap[b]?) :
  Rep pl M (h.put id (.row sz op ep xs')) w'∧Step h pl M w (h.put id (.row sz op ep xs')) pl M w':=by
 have ho:=hr.obj id p _ hp hg
 rw [hb] at ho
 simp only [ObjRel] at ho
 obtain ⟨h1,h2,h3,h4,h5,h6,h7,h8⟩:=ho
 have e:=upd_eq (pl:=pl) hp
 have:=Rep.change (p':=p) (o':= .row sz op ep xs') hr hp hg (.inl rfl) hs hsz hk (.inl rfl) (Array.getElem?_eq_some_iff.1 hw).1 (by
  rw [e,hw]
  simp only [ObjRel]
  refine ⟨h1,h2,by omega,by omega,trivial,h6,fun e=>by rw [hcs,h7 e,hlen],⟨?_,hel,fun i x j y q1 q2=>?_⟩⟩
  ·have:=h8.fit;rw [hlen,hcs];exact this
  ·rw [Nat.zero_add];exact hcell i x j y q1 q2)
 rwa [e] at this
variable {β : Type} [Inhabited β]
theorem grow_put_at {enc:β→Value} {blk off n:Nat} {d:Array β} {os:Array Obj} {c:Array Value} {t:TypeId} {fr:Nat × Nat} (hb:w.heap[blk]? = some (.cells c t fr)) :
  (grow (putRow enc (Sort.ahead w n) blk off d) os).heap[blk]? = some (.cells (putCells enc off d c) t fr):=by
 have hlt:=(Array.getElem?_eq_some_iff.1 hb).1
 simp only [grow,putRow,mapBlock,Sort.ahead]
 rw [Array.getElem?_append_left (by simpa using hlt),Array.getElem?_modify,hb]
 simp [onCells]
theorem grow_put_other {enc:β→Value} {blk off n:Nat} {d:Array β} {os:Array Obj} {b:Nat} (hb:b<w.heap.size) (hne:b≠blk) :
  (grow (putRow enc (Sort.ahead w n) blk off d) os).heap[b]? = w.heap[b]?:=by
 simp only [grow,putRow,mapBlock,Sort.ahead]
 rw [Array.getElem?_append_left (by simpa using hb),Array.getElem?_modify,if_neg (fun e=>hne e.symm)]
theorem grow_put_same {enc:β→Value} {blk off n:Nat} {d:Array β} {os:Array Obj} : WSame w (grow (putRow enc (Sort.ahead w n) blk off d) os):=⟨rfl,rfl,rfl,Nat.le_add_right _ _⟩
theorem grow_put_size {enc:β→Value} {blk off n:Nat} {d:Array β} {os:Array Obj} : w.heap.size≤(grow (putRow enc (Sort.ahead w n) blk off d) os).heap.size:=by
 simp [grow,putRow,mapBlock,Sort.ahead]
theorem putCells_getD {enc:β→Value} {d:Array β} {c:Array Value} {k:Nat} (hk:k<d.size) (hc:k<c.size):(putCells enc 0 d c).getD k undef=enc d[k]!:=by
 simp [putCells,Array.getD_eq_getD_getElem?,Array.getElem?_mapIdx,hk,hc]
theorem slice_whole (hr:Rep pl M h w) {id ep len sz:Nat} {op:Bool} {cap:Option Nat} {xs:List AV} {x:Value} (hv:VRel pl M (.slice id ep 0 len cap) x) (hg:h.get id=some (.row sz op ep xs)) (hl:0<len) :
  ∃ p c t cap',pl id=some p∧w.heap[p.blk]? = some (.cells c t (0,0))∧x = .slice (some ⟨p.blk,0,none⟩) len cap'∧InMem pl M c 0 sz xs∧0<sz∧p.blk<w.heap.size:=by
 cases hv with
 | slice hp he hle hk ha=>
  rename_i cap' a p
  have ho:=hr.obj id p _ hp hg
  cases hb:w.heap[p.blk]? with
  | none=>rw [hb] at ho;simp [ObjRel] at ho
  | some ob=>
   rw [hb] at ho
   cases ob <;> simp only [ObjRel] at ho
   rename_i c t fr
   obtain ⟨h1,h2,h3,h4,h5,h6,h7,h8⟩:=ho
   subst h5
   obtain ⟨k1,_⟩:=ha (by omega)
   have k2:a=⟨p.blk,0,none⟩:=by
    rcases k1 with k | k
    ·omega
    ·rw [k,Nat.zero_mul]
   exact ⟨p,c,t,_,hp,hb,by rw [k2],h8,h6,(Array.getElem?_eq_some_iff.1 hb).1⟩
theorem args1 {x:AV} {vs:Array Value} (hv:VRels pl M [x] vs) : ∃ a,vs = #[a]∧VRel pl M x a:=by
 obtain ⟨l⟩:=vs
 match l,hv with
 | [a],hv=>exact ⟨a,rfl,hv.at_ 0 x rfl⟩
 | [],hv=>have:=hv.len;simp at this
 | _::_::_,hv=>have:=hv.len;simp at this
theorem args2 {x y:AV} {vs:Array Value} (hv:VRels pl M [x,y] vs) : ∃ a b,vs = #[a,b]∧VRel pl M x a∧VRel pl M y b:=by
 obtain ⟨l⟩:=vs
 match l,hv with
 | [a,b],hv=>exact ⟨a,b,rfl,hv.at_ 0 x rfl,hv.at_ 1 y rfl⟩
 | [],hv=>have:=hv.len;simp at this
 | [_],hv=>have:=hv.len;simp at this
 | _::_::_::_,hv=>have:=hv.len;simp at this
theorem rel_func {f:Fn} {a:Value} (hv:VRel pl M (.func f [] []) a):a = .func f #[] #[]:=by
 cases hv with
 | func h1 h2 h3 h4=>
  rename_i vs ws
  have e1:vs = #[]:=Array.eq_empty_of_size_eq_zero h1.symm
  have e2:ws = #[]:=Array.eq_empty_of_size_eq_zero h2.symm
  rw [e1,e2]
def sortZ (zs:List Int):List Int:=zs.mergeSort fun x y=>decide (x≤y)
theorem sortZ_perm (zs:List Int):(sortZ zs).Perm zs:=List.mergeSort_perm ..
theorem sortZ_sorted (zs:List Int):(sortZ zs).Pairwise (fun a b=>a≤b):=by
 have:=List.pairwise_mergeSort (le:=fun x y:Int=>decide (x≤y)) (by intro a b c;simp;omega) (by intro a b;simp;omega) zs
 exact this.imp (by simp)
theorem inMem_get {c:Array Value} {sz:Nat} {xs:List AV} (hm:InMem pl M c 0 sz xs) {i:Nat} {x:AV} (hx:xs[i]? = some x) {j:Nat} (hj:j<sz):i * sz+j<c.size∧∃ y,x.cells[j]? = some y∧VRel pl M y (c.getD (i * sz+j) undef):=by
 have h1:=hm.fit
 have hi:=(List.getElem?_eq_some_iff.1 hx).1
 have h2:=(hm.elem x (List.mem_of_getElem? hx)).1
 have h3:(i+1) * sz≤xs.length * sz:=Nat.mul_le_mul_right _ hi
 rw [Nat.add_mul] at h3
 refine ⟨by omega,x.cells[j],by rw [List.getElem?_eq_getElem],?_⟩
 have:=hm.cell i x j _ hx (List.getElem?_eq_getElem (by omega:j<x.cells.length))
 rwa [Nat.zero_add] at this
theorem tuple_rel:VRel pl M (.tuple []) (.tuple #[]):= .tuple rfl fun j y h=>by simp at h
theorem sortInts_call {f:FuncId} (hE : ∀ vs w,(callFunc f vs).run P w = .ok (.enter f vs) w)
  (hC : ∀ (blk off cap:Nat) (zs:List Int) (w:World),Holds (Value.int .i64) w blk off zs.toArray→blk<w.heap.size→zs.length<4611686018427387904→
   Calls P f #[.slice (some ⟨blk,off,none⟩) zs.length cap] w fun e w'=>e = .returned (.tuple #[])∧∃ n os,w'=grow (putRow (Value.int .i64) (Sort.ahead w n) blk off (zs.mergeSort fun x y=>decide (x≤y)).toArray) os)
  {id ep:Nat} {op:Bool} {cap:Option Nat} (zs:List Int) (hg:h.get id=some (.row 1 op ep (zs.map encInt))) (hz:0<zs.length) (hb:zs.length<4611686018427387904) :
  HCall P G f [.slice id ep 0 zs.length cap] h (fun v h'=>v = .tuple []∧h'=h.put id (.row 1 op ep ((sortZ zs).map encInt))):=by
 intro pl M w vs hG hr hv
 obtain ⟨a,rfl,hv1⟩:=args1 hv
 obtain ⟨p,c,t,cap',hp,hbl,rfl,hm,_,hlt⟩:=slice_whole hr hv1 hg hz
 have hcell : ∀ j z,zs[j]? = some z→j<c.size∧c.getD j undef = .int .i64 z:=by
  intro j z hj
  have hx:(zs.map encInt)[j]? = some (encInt z):=by rw [List.getElem?_map,hj];rfl
  obtain ⟨q1,y,q2,q3⟩:=inMem_get hm hx (j:=0) (by omega)
  rw [Nat.mul_one,Nat.add_zero] at q1 q3
  simp [encInt,AV.cells] at q2
  subst q2
  refine ⟨q1,?_⟩
  cases hq:c.getD j undef <;> rw [hq] at q3 <;> cases q3
  rfl
 refine .inl ⟨hE _ _,Calls.mono (hC p.blk 0 cap' zs w (fun j hj=>?_) hlt hb) fun e w' ⟨he,n,os,hw⟩=>?_⟩
 ·have hj':j<zs.length:=by simpa using hj
  obtain ⟨q1,q2⟩:=hcell j zs[j] (List.getElem?_eq_getElem hj')
  rw [Nat.zero_add]
  refine ⟨?_,?_⟩
  ·simp only [World.cell?,hbl]
   simp only [Option.isSome_none,Bool.false_eq_true,if_false]
   rw [Array.getElem?_eq_getElem q1]
   have:c.getD j undef=c[j]:=by simp [Array.getD,q1]
   rw [← this,q2]
   simp [hj']
  ·simp [World.frozen?,hbl]
 ·refine ⟨.tuple #[], .tuple [],_,he,⟨rfl,rfl⟩,pl,M,tuple_rel,?_⟩
  have hlen:(sortZ zs).length=zs.length:=(sortZ_perm zs).length_eq
  have hw1:w'.heap[p.blk]? = some (.cells (putCells (Value.int .i64) 0 (sortZ zs).toArray c) t (0,0)):=by rw [hw];exact grow_put_at hbl
  obtain ⟨r1,r2⟩:=Rep.rowNew (w':=w') (xs':=(sortZ zs).map encInt) hr hp hg hbl hw1 (by simp [putCells]) (by simp [hlen]) (fun x hx=>by
    obtain ⟨z,_,rfl⟩:=List.mem_map.1 hx
    exact ⟨rfl,fun y hy=>by simp [encInt,AV.cells] at hy;subst hy;rfl⟩) (fun i x j y q1 q2=>by
    rw [List.getElem?_map] at q1
    obtain ⟨z,e1,rfl⟩:=Option.map_eq_some_iff.1 q1
    have hi:=(List.getElem?_eq_some_iff.1 e1).1
    cases j with
    | succ j=>simp [encInt,AV.cells] at q2
    | zero=>
     simp [encInt,AV.cells] at q2
     subst q2
     rw [Nat.mul_one,Nat.add_zero,putCells_getD (by simpa using hi) (hcell i zs[i] (List.getElem?_eq_getElem (by omega))).1]
     have:(sortZ zs).toArray[i]! = z:=by simp [e1]
     rw [this];exact .int _ _) (by rw [hw];exact grow_put_same) (by rw [hw];exact grow_put_size) (fun b hb hne=>by rw [hw];exact grow_put_other hb hne)
  exact ⟨r1,r2,Nat.le_refl _⟩
def compactZ (zs:List Int):List Int:=Lib.compact zs
theorem compactZ_le (zs:List Int):(compactZ zs).length≤zs.length:=by
 unfold compactZ Lib.compact Lib.compactUpTo
 rw [List.length_map]
 exact Nat.le_trans (List.length_filter_le ..) (by simp)
theorem compactInts_call {f:FuncId} (hE : ∀ vs w,(callFunc f vs).run P w = .ok (.enter f vs) w)
  (hC : ∀ (blk off cap:Nat) (zs:List Int) (w:World),Holds (Value.int .i64) w blk off zs.toArray→zs.length≤9223372036854775807→zs.length≤cap→
   Calls P f #[.slice (some ⟨blk,off,none⟩) zs.length cap] w fun e w'=>e = .returned (.slice (some ⟨blk,off,none⟩) (Lib.compact zs).length cap)∧∃ q,w'=putRow (Value.int .i64) (Sort.ahead w q) blk off (Lib.compact zs++List.replicate (zs.length - (Lib.compact zs).length) 0).toArray)
  {id ep:Nat} {op:Bool} (zs:List Int) (hg:h.get id=some (.row 1 op ep (zs.map encInt))) (hz:0<zs.length) (hb:zs.length<4611686018427387904) :
  HCall P G f [.slice id ep 0 zs.length none] h (fun v h'=>v = .slice id ep 0 (compactZ zs).length none∧h'=h.put id (.row 1 op ep ((compactZ zs++List.replicate (zs.length - (compactZ zs).length) 0).map encInt))):=by
 intro pl M w vs hG hr hv
 obtain ⟨a,rfl,hv1⟩:=args1 hv
 obtain ⟨p,c,t,cap',hp,hbl,rfl,hm,_,hlt⟩:=slice_whole hr hv1 hg hz
 have hcell : ∀ j z,zs[j]? = some z→j<c.size∧c.getD j undef = .int .i64 z:=by
  intro j z hj
  have hx:(zs.map encInt)[j]? = some (encInt z):=by rw [List.getElem?_map,hj];rfl
  obtain ⟨q1,y,q2,q3⟩:=inMem_get hm hx (j:=0) (by omega)
  rw [Nat.mul_one,Nat.add_zero] at q1 q3
  simp [encInt,AV.cells] at q2
  subst q2
  refine ⟨q1,?_⟩
  cases hq:c.getD j undef <;> rw [hq] at q3 <;> cases q3
  rfl
 have hle:=compactZ_le zs
 have hcap:zs.length≤cap':=by cases hv1 with | slice hp he hl hk ha=>exact hl
 generalize hnew:compactZ zs++List.replicate (zs.length - (compactZ zs).length) 0=ns
 have hnl:ns.length=zs.length:=by rw [← hnew];simp;omega
 refine .inl ⟨hE _ _,Calls.mono (hC p.blk 0 cap' zs w (fun j hj=>?_) (by omega) hcap) fun e w' ⟨he,n,hw⟩=>?_⟩
 ·have hj':j<zs.length:=by simpa using hj
  obtain ⟨q1,q2⟩:=hcell j zs[j] (List.getElem?_eq_getElem hj')
  rw [Nat.zero_add]
  refine ⟨?_,?_⟩
  ·simp only [World.cell?,hbl]
   simp only [Option.isSome_none,Bool.false_eq_true,if_false]
   rw [Array.getElem?_eq_getElem q1]
   have:c.getD j undef=c[j]:=by simp [Array.getD,q1]
   rw [← this,q2]
   simp [hj']
  ·simp [World.frozen?,hbl]
 ·have hw2:w'=grow (putRow (Value.int .i64) (Sort.ahead w n) p.blk 0 ns.toArray) #[]:=by
   rw [hw,grow_empty];congr 2
  have hrel:VRel pl M (.slice id ep 0 (compactZ zs).length none) (.slice (some ⟨p.blk,0,none⟩) (compactZ zs).length cap'):=by
   cases hv1 with
   | slice hp he hl hk ha=>
    refine .slice hp he (by omega) hk fun e=>?_
    obtain ⟨k1,k2,k3,k4,k5⟩:=ha e
    exact ⟨k1,k2,by omega,k4,k5⟩
  refine ⟨_,_,_,he,⟨rfl,rfl⟩,pl,M,hrel,?_⟩
  have hw1:w'.heap[p.blk]? = some (.cells (putCells (Value.int .i64) 0 ns.toArray c) t (0,0)):=by rw [hw2];exact grow_put_at hbl
  obtain ⟨r1,r2⟩:=Rep.rowNew (w':=w') (xs':=ns.map encInt) hr hp hg hbl hw1 (by simp [putCells]) (by simp [hnl]) (fun x hx=>by
    obtain ⟨z,_,rfl⟩:=List.mem_map.1 hx
    exact ⟨rfl,fun y hy=>by simp [encInt,AV.cells] at hy;subst hy;rfl⟩) (fun i x j y q1 q2=>by
    rw [List.getElem?_map] at q1
    obtain ⟨z,e1,rfl⟩:=Option.map_eq_some_iff.1 q1
    have hi:=(List.getElem?_eq_some_iff.1 e1).1
    cases j with
    | succ j=>simp [encInt,AV.cells] at q2
    | zero=>
     simp [encInt,AV.cells] at q2
     subst q2
     rw [Nat.mul_one,Nat.add_zero,putCells_getD (by simpa using hi) (hcell i zs[i] (List.getElem?_eq_getElem (by omega))).1]
     have:ns.toArray[i]! = z:=by simp [e1]
     rw [this];exact .int _ _) (by rw [hw2];exact grow_put_same) (by rw [hw2];exact grow_put_size) (fun b hb hne=>by rw [hw2];exact grow_put_other hb hne)
  exact ⟨r1,r2,Nat.le_refl _⟩
theorem sortNil_call {f:FuncId} (hE : ∀ vs w,(callFunc f vs).run P w = .ok (.enter f vs) w)
  (hC : ∀ (p:Option Addr) (cap:Nat) (w:World),Calls P f #[.slice p 0 cap] w fun e w'=>e = .returned (.tuple #[])∧w'=w):HPure P G f [.nils] (.tuple []):=by
 intro h pl M w vs hG hr hv
 obtain ⟨a,rfl,hv1⟩:=args1 hv
 cases hv1
 exact .inl ⟨hE _ _,Calls.mono (hC none 0 w) fun e w' ⟨he,hw⟩=>⟨.tuple #[], .tuple [],h,he,⟨rfl,rfl⟩,pl,M,tuple_rel,by rw [hw];exact ⟨hr,StepF.refl ..,Nat.le_refl _⟩⟩⟩
theorem sortFuncNil_call {f:FuncId} {g:Fn} (hE : ∀ vs w,(callFunc f vs).run P w = .ok (.enter f vs) w)
  (hC : ∀ (p:Option Addr) (cap:Nat) (fv:Value) (w:World),Calls P f #[.slice p 0 cap,fv] w fun e w'=>e = .returned (.tuple #[])∧w'=w):HPure P G f [.nils, .func g [] []] (.tuple []):=by
 intro h pl M w vs hG hr hv
 obtain ⟨a,b,rfl,hv1,hv2⟩:=args2 hv
 cases hv1
 exact .inl ⟨hE _ _,Calls.mono (hC none 0 b w) fun e w' ⟨he,hw⟩=>⟨.tuple #[], .tuple [],h,he,⟨rfl,rfl⟩,pl,M,tuple_rel,by rw [hw];exact ⟨hr,StepF.refl ..,Nat.le_refl _⟩⟩⟩
def ltBy {α:Type} (cmp:α→α→Int) (a b:α):Bool:=decide (cmp a b<0)
theorem sortFunc_call {f g:FuncId} {sz:Nat} (hGT:GTop G) (hE : ∀ vs w,(callFunc f vs).run P w = .ok (.enter f vs) w) (hg2 : ∀ args w,(callFunc g args).run P w = .ok (.enter g args) w)
  (hC : ∀ (m:Nat) (enc:Fin (m+1)→List Value) (cf:Fin (m+1)→Fin (m+1)→Int) (blk off cap:Nat) (d:Array (Fin (m+1))) (w:World),(∀ x,(enc x).length=sz)→(∀ x,∀ v∈enc x,v.oneCell'=true)→SWO (ltOf cf)→
   CmpLays P g #[] enc sz cf blk off d.size w→HoldsK enc sz w blk off d→blk<w.heap.size→d.size<4611686018427387904→
   Calls P f #[.slice (some ⟨blk,off,none⟩) d.size cap, .func (.func g) #[] #[]] w fun e w'=>e = .returned (.tuple #[])∧∃ d' n os,PermIn 0 d.size d d'∧SortedIn (ltOf cf) 0 d.size d'∧w'=sortWorldK enc sz w blk off n d' os)
  {α:Type} [Inhabited α] (enc:α→AV) (cmp:α→α→Int) (hO:SWO (ltBy cmp)) (hag : ∀ a,∃ cs,enc a = .agg cs) (htop : ∀ a,(enc a).top=0)
  (l:List α) (hcmp : ∀ a,a∈l→∀ b,b∈l→HPure P G g [enc a,enc b] (.int .i64 (cmp a b)))
  {oid ep:Nat} {op:Bool} {cap:Option Nat} (hg:h.get oid=some (.row sz op ep (l.map enc))) (hz:0<l.length) (hb:l.length<4611686018427387904) :
  HCall P G f [.slice oid ep 0 l.length cap, .func (.func g) [] []] h (fun v h'=>∃ l':List α,(l'.Perm l∧l'.Pairwise fun a b=>ltBy cmp b a=false)∧v = .tuple []∧h'=h.put oid (.row sz op ep (l'.map enc))):=by
 intro pl M w vs hG hr hv
 obtain ⟨a,fv,rfl,hv1,hv2⟩:=args2 hv
 have e2:=rel_func hv2
 subst e2
 obtain ⟨p,c,t,cap',hp,hbl,rfl,hm,hsz0,hlt⟩:=slice_whole hr hv1 hg hz
 obtain ⟨m,hm1⟩ : ∃ m,l.length=m+1:=⟨l.length - 1,by omega⟩
 have hfit:=hm.fit
 rw [List.length_map,Nat.zero_add,hm1] at hfit
 have helem : ∀ i:Fin (m+1),(l.map enc)[i.1]? = some (enc l[i.1]!):=fun i=>by
  have:=i.2
  rw [List.getElem?_map,List.getElem?_eq_getElem (by omega),getElem!_pos l i.1 (by omega)];rfl
 have hmul : ∀ i:Fin (m+1),i.1 * sz+sz≤(m+1) * sz:=fun i=>by
  have:=Nat.mul_le_mul_right sz (Nat.succ_le_of_lt i.2);rwa [Nat.succ_mul] at this
 generalize hcof:(fun i:Fin (m+1)=>(List.range sz).map fun j=>c.getD (i.1 * sz+j) undef)=cellsOf
 have cl : ∀ i,(cellsOf i).length=sz:=fun i=>by rw [← hcof];simp
 have cg : ∀ i j,j<sz→(cellsOf i)[j]? = some (c.getD (i.1 * sz+j) undef):=fun i j hj=>by rw [← hcof];simp [hj]
 generalize hd:(Array.ofFn (n:=m+1) id)=d
 have hds:d.size=m+1:=by rw [← hd];simp
 have hdg : ∀ j (hj:j<m+1),d[j]! = ⟨j,hj⟩:=fun j hj=>by rw [getElem!_pos d j (by omega)];subst hd;simp
 have hflat : ∀ (dk:Array (Fin (m+1))),dk.size=m+1→∀ i j,i<m+1→j<sz→(flatK cellsOf sz dk)[i * sz+j]! = c.getD ((dk[i]!).1 * sz+j) undef:=fun dk hdk i j hi hj=>by
  have h1:i * sz+j<dk.size * sz:=by
   have:=Nat.mul_le_mul_right sz (Nat.succ_le_of_lt hi);rw [Nat.succ_mul] at this;rw [hdk];omega
  rw [get_flatK cellsOf sz dk _ h1]
  have h2:(i * sz+j) / sz=i:=by rw [Nat.mul_comm,Nat.mul_add_div hsz0,Nat.div_eq_of_lt hj,Nat.add_zero]
  have h3:(i * sz+j) % sz=j:=by rw [Nat.mul_comm,Nat.mul_add_mod,Nat.mod_eq_of_lt hj]
  rw [h2,h3,getElem!_pos _ j (by rw [cl];exact hj)]
  have:=cg (dk[i]!) j hj
  rw [List.getElem?_eq_getElem (by rw [cl];exact hj)] at this
  simpa using this
 have hH:HoldsK cellsOf sz w p.blk 0 d:=by
  intro k hk
  rw [size_flatK,hds] at hk
  have hi:k / sz<m+1:=Nat.div_lt_of_lt_mul (by rw [Nat.mul_comm];exact hk)
  have hj:k % sz<sz:=Nat.mod_lt _ hsz0
  have hk2:k / sz * sz+k % sz=k:=by rw [Nat.mul_comm];exact Nat.div_add_mod k sz
  have:=hflat d hds (k / sz) (k % sz) hi hj
  rw [hdg _ hi,hk2] at this
  rw [this,Nat.zero_add]
  have hkc:k<c.size:=by omega
  refine ⟨?_,by simp [World.frozen?,hbl]⟩
  simp only [World.cell?,hbl]
  simp only [Option.isSome_none,Bool.false_eq_true,if_false]
  rw [Array.getElem?_eq_getElem hkc]
  simp [Array.getD,hkc]
 have hrelE : ∀ (i:Fin (m+1)) cs,enc l[i.1]! = .agg cs→cs.length=sz∧(∀ y,y∈cs→scalB y=true)∧∀ (j:Nat) (y:AV),cs[j]? = some y→VRel pl M y (c.getD (i.1 * sz+j) undef):=by
  intro i cs hcs
  have h1:=hm.elem _ (List.mem_of_getElem? (helem i))
  rw [hcs] at h1
  refine ⟨h1.1,h1.2,fun j y hj=>?_⟩
  have:=hm.cell i.1 _ j y (helem i) (by rw [hcs];exact hj)
  rwa [Nat.zero_add] at this
 have hone : ∀ i,∀ v∈cellsOf i,v.oneCell'=true:=by
  intro i v hvm
  obtain ⟨j,hj,e⟩:=List.getElem_of_mem hvm
  rw [cl] at hj
  have h1:=cg i j hj
  rw [List.getElem?_eq_getElem (by rw [cl];exact hj),e] at h1
  obtain ⟨cs,hcs⟩:=hag l[i.1]!
  obtain ⟨k1,k2,k3⟩:=hrelE i cs hcs
  have:=k3 j cs[j] (List.getElem?_eq_getElem (by omega))
  cases h1
  exact this.one (k2 _ (List.getElem_mem _))
 have hmemL : ∀ i:Fin (m+1),l[i.1]!∈l:=fun i=>by
  have:=i.2
  rw [getElem!_pos l i.1 (by omega)];exact List.getElem_mem _
 have hlays:CmpLays P g #[] cellsOf sz (fun i j=>cmp l[i.1]! l[j.1]!) p.blk 0 d.size w:=by
  intro n os dk hdk x y
  generalize hW:sortWorldK cellsOf sz w p.blk 0 n dk os=W
  have hWo : ∀ b,b<w.heap.size→b≠p.blk→W.heap[b]? = w.heap[b]?:=fun b h1 h2=>by rw [← hW];exact grow_put_other h1 h2
  have hrW:Rep (fun _=>none) M AHeap.none W:=rep_none (pl:=fun _=>none) (n:=0) (g:=AHeap.none.get) ⟨fun _ _ h=>by simp at h,fun _ _ _ h=>by simp at h,fun _ _ h=>by simp at h,fun _ _ _ _ h=>by simp at h,fun b c' hM=>by
   obtain ⟨t',fr,q⟩:=hr.imm b c' hM
   refine ⟨t',fr,?_⟩
   rw [hWo b (hr.memLt hM) (fun e=>by have:=hr.sep oid p hp;rw [← e,hM] at this;cases this)]
   exact q,fun _ _ h=>by simp at h⟩
  have hrel : ∀ i:Fin (m+1),VRel (fun _=>none) M (enc l[i.1]!) (.agg (cellsOf i).toArray):=by
   intro i
   obtain ⟨cs,hcs⟩:=hag l[i.1]!
   obtain ⟨k1,k2,k3⟩:=hrelE i cs hcs
   have ht:=htop l[i.1]!
   rw [hcs] at ht ⊢
   refine .agg (by simp [cl,k1]) k2 fun j y hj=>?_
   have hj':j<sz:=by rw [← k1];exact (List.getElem?_eq_some_iff.1 hj).1
   have e:(cellsOf i).toArray.getD j undef=c.getD (i.1 * sz+j) undef:=by
    have:=cg i j hj'
    rw [Array.getD_eq_getD_getElem?,List.getElem?_toArray,this];rfl
   rw [e]
   exact (k3 j y hj).none (tops_0.1 ht y (List.mem_of_getElem? hj))
  have hc:=hcmp _ (hmemL x) _ (hmemL y) AHeap.none (fun _=>none) M W #[.agg (cellsOf x).toArray, .agg (cellsOf y).toArray] (hG.none hGT) hrW ⟨rfl,fun j z hj=>by
   match j,hj with
   | 0,hj=>cases hj;exact hrel x
   | 1,hj=>cases hj;exact hrel y⟩
  rcases hc with ⟨h1,h2⟩ | ⟨cv,w',v,h',h1,h2,h3⟩
  ·refine Calls.mono h2 fun e w' ⟨cv,v,h',k1,k2,pl',M',k3,k4,k5,k6⟩=>?_
   obtain ⟨k2,_⟩:=k2
   subst k2
   cases k3
   refine ⟨k1,?_⟩
   obtain ⟨q,hq⟩:=regrown_of_below (w:=W) (w':=w') ⟨k5.os,k5.tape,k5.out,k5.size,fun b hb=>k5.kept b hb fun id p h=>by simp at h⟩
   refine ⟨w'.drawn - W.drawn,q.os,?_⟩
   have hd1:w'.drawn=q.d:=by rw [hq];rfl
   have hd2:=k5.drawn
   have:redrawn W q.d=W.drewN (w'.drawn - W.drawn):=by
    show ({ W with drawn:=q.d } : World) = { W with drawn:=W.drawn+(w'.drawn - W.drawn) }
    congr 1;omega
   rw [← this];exact hq
  ·rw [hg2] at h1;cases h1
 refine .inl ⟨hE _ _,?_⟩
 have hcall:=hC m cellsOf (fun i j=>cmp l[i.1]! l[j.1]!) p.blk 0 cap' d w cl hone ⟨fun x=>hO.irrefl _,fun x y z=>hO.trans _ _ _,fun x y z=>hO.ntrans _ _ _⟩ hlays hH hlt (by omega)
 rw [show d.size=l.length by omega] at hcall
 refine Calls.mono hcall fun e w' ⟨he,d',n,os,hP,hS,hw⟩=>?_
 obtain ⟨hp1,_,hp3⟩:=hP
 have hd's:d'.size=m+1:=by omega
 have hperm:d'.toList.Perm d.toList:=by
  have e1:d'.extract 0 l.length=d':=by rw [show l.length=d'.size by omega];exact Array.extract_size
  have e2:d.extract 0 l.length=d:=by rw [show l.length=d.size by omega];exact Array.extract_size
  rwa [e1,e2] at hp3
 have hdl:d.toList.map (fun i=>l[i.1]!)=l:=by
  apply List.ext_getElem?
  intro i
  by_cases hi:i<l.length
  ·rw [List.getElem?_map,Array.getElem?_toList,Array.getElem?_eq_getElem (by omega),List.getElem?_eq_getElem hi]
   have:=hdg i (by omega)
   rw [getElem!_pos d i (by omega)] at this
   rw [this]
   show some (l[i]!)=some l[i]
   rw [getElem!_pos l i hi]
  ·rw [List.getElem?_eq_none (by simp;omega),List.getElem?_eq_none (by omega)]
 have hl':(d'.toList.map (fun i=>l[i.1]!)).length=l.length:=by simp;omega
 refine ⟨.tuple #[], .tuple [],_,he,⟨d'.toList.map (fun i=>l[i.1]!),⟨?_,?_⟩,rfl,rfl⟩,pl,M,tuple_rel,?_⟩
 ·have:=hperm.map (fun i=>l[i.1]!);rwa [hdl] at this
 ·rw [List.pairwise_iff_getElem]
  intro i j hi hj hij
  have hi':i<d'.size:=by simpa using hi
  have hj':j<d'.size:=by simpa using hj
  have:=hS i j (Nat.zero_le _) hij (by omega)
  rw [getElem!_pos d' i hi',getElem!_pos d' j hj'] at this
  simpa [ltBy,ltOf] using this
 ·have hw1:w'.heap[p.blk]? = some (.cells (putCells id 0 (flatK cellsOf sz d') c) t (0,0)):=by rw [hw];exact grow_put_at hbl
  obtain ⟨r1,r2⟩:=Rep.rowNew (w':=w') (xs':=(d'.toList.map (fun i=>l[i.1]!)).map enc) hr hp hg hbl hw1 (by simp [putCells]) (by simp;omega) (fun x hx=>by
    obtain ⟨z,h1,rfl⟩:=List.mem_map.1 hx
    obtain ⟨i,_,rfl⟩:=List.mem_map.1 h1
    exact hm.elem _ (List.mem_of_getElem? (helem i))) (fun i x j y q1 q2=>by
    rw [List.getElem?_map,List.getElem?_map,Array.getElem?_toList] at q1
    obtain ⟨z,e1,rfl⟩:=Option.map_eq_some_iff.1 q1
    obtain ⟨k,e2,rfl⟩:=Option.map_eq_some_iff.1 e1
    have hi:i<d'.size:=(Array.getElem?_eq_some_iff.1 e2).1
    obtain ⟨cs,hcs⟩:=hag l[k.1]!
    obtain ⟨k1,k2,k3⟩:=hrelE k cs hcs
    rw [hcs] at q2
    have hj:j<sz:=by rw [← k1];exact (List.getElem?_eq_some_iff.1 q2).1
    have hb1:i * sz+j<(m+1) * sz:=by
     have:=Nat.mul_le_mul_right sz (Nat.succ_le_of_lt (show i<m+1 by omega));rw [Nat.succ_mul] at this;omega
    rw [putCells_getD (by rw [size_flatK,hd's];exact hb1) (by omega)]
    have:=hflat d' hd's i j (by omega) hj
    have e3:d'[i]! = k:=by rw [getElem!_pos d' i hi];rw [Array.getElem?_eq_getElem hi] at e2;simpa using e2
    rw [e3] at this
    show VRel pl M y (flatK cellsOf sz d')[i * sz+j]!
    rw [this]
    exact k3 j y q2) (by rw [hw];exact grow_put_same) (by rw [hw];exact grow_put_size) (fun b hb hne=>by rw [hw];exact grow_put_other hb hne)
  exact ⟨r1,r2,Nat.le_refl _⟩
end
end Go.Ev
