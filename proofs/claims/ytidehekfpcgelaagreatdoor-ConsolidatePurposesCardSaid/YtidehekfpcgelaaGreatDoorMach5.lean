/- An abstract machine for runs of the program, proved sound against the model: part 5. No conditions. -/
import Derived.Test.YtidehekfpcgelaaGreatDoorMach4
import Derived.Sort.Grow
namespace Go.Ev
open Go
inductive D:Type 1
 | fin
 | abs
 | go (n:Nat) (d:D)
 | val (v:AV) (d:D)
 | opv (v:AV) (h:AHeap) (d:D)
 | elem (x:AV) (d:D)
 | chr (c:UInt8) (d:D)
 | app (d:D)
 | pk (w:Bool) (d:D)
 | efd (v:AV) (h:AHeap) (d:D)
 | efx (same:Bool) (v:AV) (h:AHeap) (d:D)
 | look (v:AV) (d:D)
 | upd (es:List AEnt) (c:Nat) (d:D)
 | nz (t:Nat) (a b:D)
 | slc (d:D)
 | slp (ys:List AV) (d:D)
 | apx (ys:List AV) (d:D)
 | apl (d:D)
 | pure (v:AV) (d:D)
 | asl (u:AV) (d:D)
 | rix (d:D)
 | rld (x:AV) (d:D)
 | rst (x:AV) (xs:List AV) (d:D)
 | eff (Y:Type) (r:Y→AV) (hp:Y→AHeap) (I:Y→Prop) (d:Y→D)
 | tt (d:D)
 | ff (d:D)
 | br (a b:D)
 | le (t:Nat) (u:AV) (d:D)
 | frz (k:Nat) (ts:List Nat) (d:D)
 | frl (k:Nat) (ts ls:List Nat) (d:D)
 | psh (o:AObj) (d:D)
 | un (n:Nat) (d:D)
 | inn (d:D)
 | fsl (k:Nat) (ts:List Nat) (t:Nat) (ys:List AV) (d:D)
 | ren (ids pl ts:List Nat) (d:D)
 | obj (i:Nat) (o:AObj) (d:D)
 | obw (i:Nat) (u:AV) (d:D)
 | fzo (i k:Nat) (ts:List Nat) (ys:List AV) (d:D)
 | fza (i j k:Nat) (ts:List Nat) (ys:List AV) (d:D)
 | cs (T:Type) (l:List T) (a:D) (b:T→List T→D)
 | bs (t:Bool) (a b:D)
 | join (X:Type) (ts:List Nat) (S:X→List AV × List AObj) (I:X→Prop) (d:D) (d':X→D)
 | loop (X:Type) (ts:List Nat) (S:X→List AV × List AObj) (I:X→Prop) (m:X→Nat) (x0:X) (d:X→D)
 | loop2 (X Y:Type) (ts:List Nat) (S:X→List AV × List AObj) (S':Y→List AV × List AObj) (I:X→Prop) (I':Y→Prop) (m:X→Nat) (m':Y→Nat) (x0:X ⊕ Y) (d:X→D) (d':Y→D)
noncomputable section
def nx (n:Nat) (d:D):D:=match n with | 0=>d | m+1=> .go m d
inductive Gd where
 | yes | no | sym (b want:Bool) | bad
def AP (A:Fr):Option (Option Tmp × Bool)→Gd
 | none=> .yes
 | some (some d,want)=>match A.get d with
  | some (.bool b)=> .sym b want
  | some (.tuple [])=> .no
  | _=> .bad
 | some (none,_)=> .no
def tq (want:Bool) (a b:Prop):Prop:=match want with | true=>a | false=>b
def XP (g:Gd) (d:D) (y n:D→Prop):Prop:=
 match g with
 | .yes=>y d
 | .no=>n d
 | .bad=>False
 | .sym b want=>match d with
  | .tt d'=>b=true∧tq want (y d') (n d')
  | .ff d'=>b=false∧tq want (n d') (y d')
  | .br d1 d2=>(b=true→tq want (y d1) (n d1))∧(b=false→tq want (n d2) (y d2))
  | d=>match b with | true=>tq want (y d) (n d) | false=>tq want (n d) (y d)
def lD (A:Fr) (dst:Option Tmp) (v:AV) (K:Fr→Prop):Prop:=match iH A dst v with | some A'=>K A' | none=>False
def uv (r:Option ARes) (K:AV→AHeap→Prop):Prop:=match r with | some (.val v h)=>K v h | _=>False
theorem wB {r:Option ARes} {K:AV→AHeap→Prop} (h:uv r K) : ∃ v h1,r=some (.val v h1)∧K v h1:=by
 unfold uv at h;grind
def lk (r:Option ARes) (K:FuncId→List AV→Prop):Prop:=match r with | some (.call f args)=>K f args | _=>False
def XW:Option AV→Option (List AV)
 | some (.ls xs)=>some xs
 | some (.ps xs _)=>some xs
 | _=>none
def Py:Option AV→Option Nat
 | some v=>fp v
 | none=>none
def Gm (P:Program) (G:eh) (op:Op) (A:Fr):Option (List AV × Nat × Nat):=match op with
 | .indexAddr t x i=>match P.underlying t with
  | some (.slice e)=>match cM P e with
   | some (s+1)=>match XW ((co G x).run A),Py ((co G i).run A) with
    | some xs,some k=>some (xs,k,s+1)
    | _,_=>none
   | _=>none
  | _=>none
 | _=>none
def tT (r:Option (List AV × Nat × Nat)) (x:AV) (K:Prop):Prop:=match r with
 | some (xs,i,s)=>match Nat.beq x.cells.length s with | true=>jk xs i=some x∧K | false=>False
 | none=>False
def VS (P:Program) (G:eh) (op:Op) (A:Fr):Option (List UInt8 × Nat):=match op with
 | .index t x i=>match P.underlying t with
  | some .string=>match (co G x).run A,Py ((co G i).run A) with
   | some (.str s),some k=>some (s,k)
   | _,_=>none
  | _=>none
 | _=>none
def DF (r:Option (List UInt8 × Nat)) (c:UInt8) (K:Prop):Prop:=match r with
 | some (s,i)=>jk s i=some c∧K
 | none=>False
def XH (G:eh) (w:Bool) (op:Op) (A:Fr):Option (Bool × AV):=match op with
 | .pick c a b=>match (co G c).run A with
  | some (.bool t)=>match w with
   | true=>match (co G a).run A with | some v=>some (t,v) | none=>none
   | false=>match (co G b).run A with | some v=>some (t,v) | none=>none
  | _=>none
 | _=>none
def C7 (w:Bool) (r:Option (Bool × AV)) (K:AV→Prop):Prop:=match r with
 | some (t,v)=>t=w∧K v
 | none=>False
structure Look where
 ag:Bool
 sz:Nat
 lv:List (Nat × Nat)
 z:Option AV
 ok:Bool
 id:Nat
 k:AV
 v:AV
def oS (P:Program) (G:eh) (op:Op) (A:Fr):Option Look:=match op with
 | .lookup t m k ok=>match P.underlying t with
  | some (.map kt e)=>match cH P kt,cM P kt,dN P 10 kt 0 with
   | some ag,some sz,some lv=>match (co G m).run A,(co G k).run A with
    | some (.map id),some k=>match IX ag sz k with | true=>some ⟨ag,sz,lv,iP P e,ok,id,k,gZ⟩ | false=>none
    | _,_=>none
   | _,_,_=>none
  | _=>none
 | .mapUpdate t m k x | .insert t m k x=>match P.underlying t with
  | some (.map kt _)=>match cH P kt,cM P kt,dN P 10 kt 0 with
   | some ag,some sz,some lv=>match (co G m).run A,(co G k).run A,(co G x).run A with
    | some (.map id),some k,some x=>match IX ag sz k with | true=>some ⟨ag,sz,lv,none,false,id,k,x⟩ | false=>none
    | _,_,_=>none
   | _,_,_=>none
  | _=>none
 | _=>none
def Pd:Op→Bool
 | .lookup ..=>true
 | _=>false
def Uk:Op→Bool
 | .mapUpdate .. | .insert ..=>true
 | _=>false
def tc (op:Op) (h:AHeap) (r:Option Look) (v:AV) (K:Prop):Prop:=match Pd op,r with
 | true,some l=>match h.get l.id with
  | some (.map es _)=>eF l.z l.ok (bv l.ag l.sz l.lv l.k es 0)=some v∧K
  | _=>False
 | _,_=>False
def rk (es:List AEnt) (clock:Nat) (k v:AV):Option (Option (Nat × AEnt))→Option (List AEnt × Nat)
 | some (some (i,en))=>match mZ k en.key with | true=>some (es.set i { en with val:=v },clock) | false=>none
 | some none=>some (es++ [{ key:=k,val:=v,born:=clock }],clock+1)
 | none=>none
def xq (op:Op) (h:AHeap) (r:Option Look) (es':List AEnt) (c':Nat) (K:AHeap→Prop):Prop:=match Uk op,r with
 | true,some l=>match h.get l.id with
  | some (.map es c)=>rk es c l.k l.v (bv l.ag l.sz l.lv l.k es 0)=some (es',c')∧K (h.put l.id (.map es' c'))
  | _=>False
 | _,_=>False
structure App where
 id:Nat
 ep:Nat
 len:Nat
 new:List AV
 sz:Nat
 b:Nat
def Xl (h:AHeap) (sz b:Nat):Option AV→Option AV→Option App
 | some (.slice id ep 0 len none),some x=>match kj h x with
  | some (y::ys)=>match dn sz (y::ys) with | true=>some ⟨id,ep,len,y::ys,sz,b⟩ | false=>none
  | _=>none
 | _,_=>none
def Q6 (P:Program) (G:eh) (op:Op) (A:Fr) (h:AHeap):Option App:=match op with
 | .call { callee:= .builtin .append,args,argTypes }=>match args.toList with
  | [s,x]=>match (argTypes[0]?).bind (eC P),(argTypes[1]?).bind P.underlying with
   | some e,some (.slice _)=>match P.info? e with
    | some i=>match i.size,iP P e with
     | sz+1,some z=>match Nat.beq z.cells.length (sz+1) with
      | true=>Xl h (sz+1) i.bytes ((co G s).run A) ((co G x).run A)
      | false=>none
     | _,_=>none
    | none=>none
   | _,_=>none
  | _=>none
 | _=>none
def DN (h:AHeap) (a:Option App) (K:AV→AHeap→Prop):Prop:=match a with
 | some a=>match h.get a.id with
  | some (.row sz true ep xs)=>match Nat.beq sz a.sz with
   | true=>(a.ep=ep∧a.len=xs.length∧small (a.len+a.new.length) a.b=true)∧K (.slice a.id (a.ep+1) 0 (a.len+a.new.length) none) (h.put a.id (.row sz true (ep+1) (xs++a.new)))
   | false=>False
  | _=>False
 | none=>False
structure Apl where
 s:AV
 ys:List AV
 sz:Nat
 b:Nat
def Xm (h:AHeap) (sz b:Nat):Option AV→Option AV→Option Apl
 | some s,some x=>match kj h x with
  | some ys=>some ⟨s,ys,sz,b⟩
  | none=>none
 | _,_=>none
def KR (P:Program) (G:eh) (op:Op) (A:Fr) (h:AHeap):Option Apl:=match op with
 | .call { callee:= .builtin .append,args,argTypes }=>match args.toList with
  | [s,x]=>match (argTypes[0]?).bind (eC P),(argTypes[1]?).bind P.underlying with
   | some e,some (.slice _)=>match P.info? e with
    | some i=>match i.size,iP P e with
     | sz+1,some z=>match Nat.beq z.cells.length (sz+1) with
      | true=>Xm h (sz+1) i.bytes ((co G s).run A) ((co G x).run A)
      | false=>none
     | _,_=>none
    | none=>none
   | _,_=>none
  | _=>none
 | _=>none
def xu (h:AHeap) (a:Option Apl) (K:AV→AHeap→Prop):Prop:=match a with
 | some a=>(a.ys≠ []∧dn a.sz a.ys=true)∧match a.s with
  | .nils=>small a.ys.length a.b=true∧K (.slice h.n 0 0 a.ys.length none) (h.push (.row a.sz true 0 a.ys))
  | .ps [] true=>small a.ys.length a.b=true∧K (.slice h.n 0 0 a.ys.length none) (h.push (.row a.sz true 0 a.ys))
  | .ps (z::zs) true=>(small ((z::zs).length+a.ys.length) a.b=true∧dn a.sz (z::zs)=true)∧K (.slice h.n 0 0 (z::zs++a.ys).length none) (h.push (.row a.sz true 0 (z::zs++a.ys)))
  | .slice id ep 0 len none=>match h.get id with
   | some (.row sz true ep' xs)=>match Nat.beq sz a.sz with
    | true=>(ep=ep'∧len=xs.length∧small (len+a.ys.length) a.b=true)∧K (.slice id (ep+1) 0 (len+a.ys.length) none) (h.put id (.row sz true (ep+1) (xs++a.ys)))
    | false=>False
   | _=>False
  | _=>False
 | none=>False
def G5 (h:AHeap) (a:Option Apl) (xs':List AV) (K:AV→AHeap→Prop):Prop:=match a with
 | some a=>(a.ys≠ []∧dn a.sz a.ys=true)∧match a.s with
  | .nils=>(a.ys=xs'∧small a.ys.length a.b=true)∧K (.slice h.n 0 0 a.ys.length none) (h.push (.row a.sz true 0 xs'))
  | .ps [] true=>(a.ys=xs'∧small a.ys.length a.b=true)∧K (.slice h.n 0 0 a.ys.length none) (h.push (.row a.sz true 0 xs'))
  | .ps (z::zs) true=>((z::zs++a.ys=xs'∧small ((z::zs).length+a.ys.length) a.b=true)∧dn a.sz (z::zs)=true)∧K (.slice h.n 0 0 xs'.length none) (h.push (.row a.sz true 0 xs'))
  | .slice id ep 0 len none=>match h.get id with
   | some (.row sz true ep' xs)=>match Nat.beq sz a.sz with
    | true=>((ep=ep'∧len=xs.length∧small (len+a.ys.length) a.b=true)∧xs++a.ys=xs')∧K (.slice id (ep+1) 0 (len+a.ys.length) none) (h.put id (.row sz true (ep+1) xs'))
    | false=>False
   | _=>False
  | _=>False
 | none=>False
theorem Yk {h:AHeap} {a:Option Apl} {xs':List AV} {K:AV→AHeap→Prop} (e:G5 h a xs' K):xu h a K:=by
 cases a with
 | none=>exact e.elim
 | some a=>
  obtain ⟨s,ys,sz,b⟩:=a;obtain ⟨h1,e⟩:=e;refine ⟨h1,?_⟩;simp only [] at e ⊢;split at e
  ·grind
  ·grind
  ·simp_all
  ·split at e
   ·rename_i hg;try simp only [hg]
    split at e
    ·rename_i hb;try simp only [hb]
     grind
    omega
   omega
  omega
structure Rix where
 id:Nat
 ep:Nat
 ep':Nat
 off:Nat
 i:Nat
 len:Nat
def Jo (P:Program) (G:eh) (op:Op) (A:Fr) (h:AHeap):Option Rix:=match op with
 | .indexAddr t x i=>match P.underlying t with
  | some (.slice e)=>match cM P e with
   | some (s+1)=>match (co G x).run A,Py ((co G i).run A) with
    | some (.slice id ep off len _),some k=>match h.get id with
     | some (.row sz _ ep' _)=>match Nat.beq sz (s+1) with | true=>some ⟨id,ep,ep',off,k,len⟩ | false=>none
     | _=>none
    | some (.sl0 id ep len _),some k=>match h.get id with
     | some (.row sz _ ep' _)=>match Nat.beq sz (s+1) with | true=>some ⟨id,ep,ep',0,k,len⟩ | false=>none
     | _=>none
    | _,_=>none
   | _=>none
  | _=>none
 | _=>none
def DT (off i:Nat):Nat:=match off with | 0=>i | k+1=>(k+1)+i
def xa (r:Option Rix) (K:AV→Prop):Prop:=match r with
 | some q=>(q.ep=q.ep'∧q.i<q.len)∧K (.ptr q.id q.ep (DT q.off q.i) 0)
 | none=>False
structure Slc where
 id:Nat
 ep:Nat
 ep':Nat
 off:Nat
 lo:Nat
 hi:Nat
 n:Nat
def Uu (h l:Nat):Nat:=match l with | 0=>h | k+1=>h - (k+1)
def LG (G:eh) (A:Fr) (d:Nat):Option Operand→Option Nat
 | none=>some d
 | some x=>Py ((co G x).run A)
def Jv (P:Program) (G:eh) (op:Op) (A:Fr) (h:AHeap):Option Slc:=match op with
 | .slice t x lo hi none=>match P.underlying t with
  | some (.slice e)=>match cM P e with
   | some (s+1)=>match (co G x).run A with
    | some (.slice id ep off len none)=>match LG G A 0 lo,LG G A len hi,h.get id with
     | some l,some hh,some (.row sz _ ep' xs)=>match Nat.beq sz (s+1) with | true=>some ⟨id,ep,ep',off,l,hh,xs.length⟩ | false=>none
     | _,_,_=>none
    | _=>none
   | _=>none
  | _=>none
 | _=>none
def xk (r:Option Slc) (K:AV→Prop):Prop:=match r with
 | some q=>(q.ep=q.ep'∧q.lo≤q.hi∧DT q.off q.hi≤q.n)∧K (.slice q.id q.ep (DT q.off q.lo) (Uu q.hi q.lo) none)
 | none=>False
structure Slp where
 xs:List AV
 sz:Nat
 lo:Nat
 hi:Nat
def Jw (P:Program) (G:eh) (op:Op) (A:Fr):Option Slp:=match op with
 | .slice t x lo hi none=>match P.underlying t with
  | some (.slice e)=>match cM P e with
   | some (s+1)=>match (co G x).run A with
    | some (.ls xs)=>match LG G A 0 lo,LG G A xs.length hi with
     | some l,some hh=>some ⟨xs,s+1,l,hh⟩
     | _,_=>none
    | _=>none
   | _=>none
  | _=>none
 | _=>none
def xj (r:Option Slp) (ys:List AV) (K:AV→Prop):Prop:=match r with
 | some q=>(o4 q.sz q.xs=true∧(q.lo≤q.hi∧q.hi≤q.xs.length)∧(q.xs.take q.hi).drop q.lo=ys)∧K (.ls ys)
 | none=>False
structure Rld where
 ep:Nat
 ep':Nat
 xs:List AV
 i:Nat
 off:Nat
 ag:Bool
 n:Nat
def Jn (P:Program) (G:eh) (op:Op) (A:Fr) (h:AHeap):Option Rld:=match op with
 | .load t a=>match cH P t,cM P t with
  | some ag,some n=>match (co G a).run A with
   | some (.ptr id ep i off)=>match h.get id with
    | some (.row _ _ ep' xs)=>some ⟨ep,ep',xs,i,off,ag,n⟩
    | _=>none
   | _=>none
  | _,_=>none
 | _=>none
def xy (r:Option Rld) (x:AV) (K:AV→Prop):Prop:=match r with
 | some q=>match tz q.ag q.n x.cells q.off with
  | some v=>(q.ep=q.ep'∧jk q.xs q.i=some x)∧K v
  | none=>False
 | none=>False
structure Rst where
 id:Nat
 ep:Nat
 ep':Nat
 sz:Nat
 op:Bool
 xs:List AV
 i:Nat
 off:Nat
 v:AV
def Ji (P:Program) (G:eh) (op:Op) (A:Fr) (h:AHeap):Option Rst:=match op with
 | .store t a x=>match cM P t with
  | some n=>match (co G a).run A,(co G x).run A with
   | some (.ptr id ep i off),some v=>match h.get id with
    | some (.row sz op ep' xs)=>match Nat.beq v.cells.length n && eG v with
     | true=>some ⟨id,ep,ep',sz,op,xs,i,off,v⟩
     | false=>none
    | _=>none
   | _,_=>none
  | none=>none
 | _=>none
def xw (h:AHeap) (r:Option Rst) (x:AV) (xs':List AV) (K:AHeap→Prop):Prop:=match r with
 | some q=>match tJ x q.off q.v with
  | some y=>(q.ep=q.ep'∧jk q.xs q.i=some x∧q.xs.set q.i y=xs')∧K (h.put q.id (.row q.sz q.op q.ep' xs'))
  | none=>False
 | none=>False
def Nx {X:Type} (I:X→Prop) (m:X→Nat) (S:X→List AV × List AObj) (x:X) (p:List AV × List AObj):Prop:=∃ y,I y∧m y<m x∧p=S y
def RF (n:Nat) (ts:List Nat) (p:List AV × List AObj):St:=⟨dR n (ts.zip p.1),ay p.2⟩
section
variable (P : Program) (G : eh) (call : cQ) (m : Nat)
def CT:List AV→Bool
 | []=>true
 | x::r=>cG x && CT r
def m7 (h:AHeap) (n:Nat):Nat→Prop
 | 0=>True
 | k+1=>match h.get k with
  | some o=>Nat.ble o.top n=true∧m7 h n k
  | none=>m7 h n k
def Ov (h:AHeap) (ids pl:List Nat):List Nat→(List AObj→Prop)→Prop
 | [],K=>K []
 | i::r,K=>match h.get i with
  | some o=>match i9 i pl with
   | true=>o.top=0∧Ov h ids pl r fun L=>K (o::L)
   | false=>match sM ids o with
    | true=>Ov h ids pl r fun L=>K (jT (fun i=>jA i ids 0) o::L)
    | false=>False
  | none=>False
def pre:D→St→(D→St→Prop)→Prop
 | .le t u d,s,K=>match s.tmps.get t with
  | some v=>Le u v∧(match iH s.tmps (some t) u with | some A'=>pre d ⟨A',s.heap⟩ K | none=>False)
  | none=>False
 | .frz k ts d,s,K=>match Nat.ble m k && Nat.ble k s.heap.n with
  | true=>m7 s.heap k k∧match frzL s.tmps s.heap k ts with
   | some L=>match eJ s.heap k 0 with
    | some os=>pre d ⟨dR s.tmps.n L,ay os⟩ K
    | none=>False
   | none=>False
  | false=>False
 | .psh o d,s,K=>pre d ⟨s.tmps,s.heap.push o⟩ K
 | .frl k ts ls d,s,K=>match Nat.ble m k && Nat.ble k s.heap.n with
  | true=>m7 s.heap k k∧Ff s.tmps k ls∧match frzL s.tmps s.heap k ts,B7 s.tmps ls,eJ s.heap k 0 with
   | some L,some K',some os=>pre d ⟨dR s.tmps.n (K'++L),ay os⟩ K
   | _,_,_=>False
  | false=>False
 | .fsl k ts t ys d,s,K=>match Nat.ble m k && Nat.ble k s.heap.n with
  | true=>m7 s.heap k k∧match frzL s.tmps s.heap k ts,s.tmps.get t with
   | some L,some (.slice id ep off len cap)=>match Nat.ble k id,s.heap.get id,eJ s.heap k 0 with
    | true,some (.row _ _ ep' xs),some os=>(ep=ep'∧(xs.drop off).take len=ys∧aq ys=0)∧pre d ⟨dR s.tmps.n ((t, .ps ys (n5 cap (some len)))::L),ay os⟩ K
    | _,_,_=>False
   | _,_=>False
  | false=>False
 | .ren ids pl ts d,s,K=>match yB ids && zo ids m with
  | true=>match La s.tmps ids ts with
   | some L=>Ov s.heap ids pl ids fun os=>pre d ⟨dR s.tmps.n L,ay os⟩ K
   | none=>False
  | false=>False
 | .obj i o d,s,K=>match s.heap.get i with
  | some o'=>o'=o∧pre d ⟨s.tmps,s.heap.put i o⟩ K
  | none=>False
 | .obw i u d,s,K=>match s.heap.get i with
  | some (.row sz op ep [v])=>match Nat.beq u.cells.length v.cells.length && eG u && CT u.cells with
   | true=>(∀ (j:Nat) (y:AV),u.cells[j]? = some y→∃ x:AV,v.cells[j]? = some x∧Le y x)∧pre d ⟨s.tmps,s.heap.put i (.row sz op ep [u])⟩ K
   | false=>False
  | _=>False
 | .fzo i k ts ys d,s,K=>match Nat.ble m k && Nat.ble k s.heap.n && Nat.blt i k with
  | true=>match s.heap.get i with
   | some (.row sz op ep' [.slice id ep off len cap])=>match Nat.ble k id,s.heap.get id,frzL s.tmps s.heap k ts,eJ (s.heap.put i (.row sz op ep' [.ls ys])) k 0 with
    | true,some (.row _ _ ep2 xs),some L,some os=>m7 (s.heap.put i .dead) k k∧(ep=ep2∧(xs.drop off).take len=ys∧aq ys=0)∧pre d ⟨dR s.tmps.n L,ay os⟩ K
    | _,_,_,_=>False
   | _=>False
  | false=>False
 | .fza i j k ts ys d,s,K=>match Nat.ble m k && Nat.ble k s.heap.n && Nat.blt i k with
  | true=>match s.heap.get i with
   | some (.row sz op ep' [.agg cs])=>match jk cs j with
    | some (.slice id ep off len cap)=>match Nat.ble k id,s.heap.get id,frzL s.tmps s.heap k ts,eJ (s.heap.put i (.row sz op ep' [.agg (cs.set j (.ls ys))])) k 0 with
     | true,some (.row _ _ ep2 xs),some L,some os=>m7 (s.heap.put i (.row sz op ep' [.agg (cs.set j (.ls ys))])) k k∧(ep=ep2∧(xs.drop off).take len=ys∧aq ys=0)∧pre d ⟨dR s.tmps.n L,ay os⟩ K
     | _,_,_,_=>False
    | some (.sl0 id ep len cap)=>match Nat.ble k id,s.heap.get id,frzL s.tmps s.heap k ts,eJ (s.heap.put i (.row sz op ep' [.agg (cs.set j (.ls ys))])) k 0 with
     | true,some (.row _ _ ep2 xs),some L,some os=>m7 (s.heap.put i (.row sz op ep' [.agg (cs.set j (.ls ys))])) k k∧(ep=ep2∧(xs.drop 0).take len=ys∧aq ys=0)∧pre d ⟨dR s.tmps.n L,ay os⟩ K
     | _,_,_,_=>False
    | _=>False
   | _=>False
  | false=>False
 | .abs,_,_=>False
 | .cs _ l a b,s,K=>(l = []→pre a s K)∧(∀ w r,l=w::r→pre (b w r) s K)
 | .bs t a b,s,K=>(t=true→pre a s K)∧(t=false→pre b s K)
 | d,s,K=>K d s
def Xs (o:Oper) (d:D) (s:St) (K:D→St→Prop):Prop:=
 match d with
 | .go n d'=>match behind call s.heap ((e9 P G o.op).run s.tmps s.heap) with
  | some (v,h')=>lD s.tmps o.dst v fun A=>K (nx n d') ⟨A,h'⟩
  | none=>False
 | .opv v h' d'=>(e9 P G o.op).run s.tmps s.heap=some (.val v h')∧lD s.tmps o.dst v fun A=>K d' ⟨A,h'⟩
 | .val v d'=>(e9 P G o.op).run s.tmps s.heap=some (.val v s.heap)∧lD s.tmps o.dst v fun A=>K d' ⟨A,s.heap⟩
 | .elem x d'=>tT (Gm P G o.op s.tmps) x (lD s.tmps o.dst (.pptr [x] 0 0) fun A=>K d' ⟨A,s.heap⟩)
 | .chr c d'=>DF (VS P G o.op s.tmps) c (lD s.tmps o.dst (.int .u8 (.ofNat c.toNat)) fun A=>K d' ⟨A,s.heap⟩)
 | .efd v h' d'=>lk ((e9 P G o.op).run s.tmps s.heap) fun f args=>aF P G f args s.heap (fun v1 h1=>v1=v∧h1=h')∧lD s.tmps o.dst v fun A=>K d' ⟨A,h'⟩
 | .look v d'=>tc o.op s.heap (oS P G o.op s.tmps) v (lD s.tmps o.dst v fun A=>K d' ⟨A,s.heap⟩)
 | .upd es c d'=>xq o.op s.heap (oS P G o.op s.tmps) es c fun h'=>lD s.tmps o.dst gZ fun A=>K d' ⟨A,h'⟩
 | .pk w d'=>C7 w (XH G w o.op s.tmps) fun v=>lD s.tmps o.dst v fun A=>K d' ⟨A,s.heap⟩
 | .app d'=>DN s.heap (Q6 P G o.op s.tmps s.heap) fun v h'=>lD s.tmps o.dst v fun A=>K d' ⟨A,h'⟩
 | .pure v d'=>lk ((e9 P G o.op).run s.tmps s.heap) fun f args=>aO P G f args v∧lD s.tmps o.dst v fun A=>K d' ⟨A,s.heap⟩
 | .rix d'=>xa (Jo P G o.op s.tmps s.heap) fun v=>lD s.tmps o.dst v fun A=>K d' ⟨A,s.heap⟩
 | .apl d'=>xu s.heap (KR P G o.op s.tmps s.heap) fun v h'=>lD s.tmps o.dst v fun A=>K d' ⟨A,h'⟩
 | .slc d'=>xk (Jv P G o.op s.tmps s.heap) fun v=>lD s.tmps o.dst v fun A=>K d' ⟨A,s.heap⟩
 | .slp ys d'=>xj (Jw P G o.op s.tmps) ys fun v=>lD s.tmps o.dst v fun A=>K d' ⟨A,s.heap⟩
 | .rld x d'=>xy (Jn P G o.op s.tmps s.heap) x fun v=>lD s.tmps o.dst v fun A=>K d' ⟨A,s.heap⟩
 | .rst x xs d'=>xw s.heap (Ji P G o.op s.tmps s.heap) x xs fun h'=>lD s.tmps o.dst gZ fun A=>K d' ⟨A,h'⟩
 | .eff _ r hp I d'=>lk ((e9 P G o.op).run s.tmps s.heap) fun f args=>aF P G f args s.heap (fun v h'=>∃ y,I y∧v=r y∧h'=hp y)∧∀ y,I y→lD s.tmps o.dst (r y) fun A=>K (d' y) ⟨A,hp y⟩
 | _=>False
def W5 (s:St) (t:Nat) (K0 K1:St→Prop):Prop:=match s.tmps.get t with
 | some (.ls xs)=>(xs = []→lD s.tmps (some t) .nils fun A=>K0 ⟨A,s.heap⟩)∧lD s.tmps (some t) (.ps xs false) fun A=>K1 ⟨A,s.heap⟩
 | _=>False
def XO (d:D) (s:St) (K:D→St→Prop):Prop:=match d with
 | .nz t a b=>W5 s t (K a) (K b)
 | d=>K d s
def Wz (ops:Array Oper):List Oper→D→St→(D→St→Prop)→Prop
 | [],d,s,K=>K d s
 | o::r,d,s,K=>XO d s fun d s=>pre m d s fun d s=>XO d s fun d s=>XP (AP s.tmps (ez ops o)) d
  (fun d=>Xs P G call o d s fun d s=>Wz ops r d s K)
  (fun d=>lD s.tmps o.dst gZ fun A=>Wz ops r d ⟨A,s.heap⟩ K)
def VR (F:Fr) (h:AHeap) (d:DOper):A7:=
 match d.kind with
 | 0=>pd F h d (b7 F d.foot)
 | 1=>pW F h d (b7 F d.foot)
 | _=>KD call F h d
def OY (h h':AHeap):Nat→Prop
 | 0=>True
 | k+1=>h'.get k=h.get k∧OY h h' k
def UH (b:Bool) (h h':AHeap) (n:Nat):Prop:=match b with | true=>OY h h' n | false=>True
def AK (masks:List (Nat × Nat)) (k:Nat) (r:Rec) (rs:List Rec) (p:Prop):Prop:=match kN (eA masks k) r rs k with | true=>p | false=>False
def Xt (o:Oper) (dp:DOper) (d:D) (F:Fr) (h:AHeap) (K:D→AV→AHeap→Rec→Prop):Prop:=
 match d with
 | .go n d'=>match VR call F h dp with
  | some (v,h',rec)=>K (nx n d') v h' rec
  | none=>False
 | .asl u d'=>match VR call F h dp with
  | some (v,h',rec)=>Le u v∧K d' u h' rec
  | none=>False
 | .rix d'=>match Nat.beq (cO o.op) 0 with
  | true=>xa (Jo P G o.op ⟨F.n,bF F dp.look .nil⟩ ⟨1000000,bo h (b7 F dp.foot) .nil⟩) fun v=>K d' v h (Ev.rd (b7 F dp.foot))
  | false=>False
 | .slc d'=>match Nat.beq (cO o.op) 0 with
  | true=>xk (Jv P G o.op ⟨F.n,bF F dp.look .nil⟩ ⟨1000000,bo h (b7 F dp.foot) .nil⟩) fun v=>K d' v h (Ev.rd (b7 F dp.foot))
  | false=>False
 | .rld x d'=>match Nat.beq (cO o.op) 0 with
  | true=>xy (Jn P G o.op ⟨F.n,bF F dp.look .nil⟩ ⟨1000000,bo h (b7 F dp.foot) .nil⟩) x fun v=>K d' v h (Ev.rd (b7 F dp.foot))
  | false=>False
 | .rst x xs d'=>match Nat.beq (cO o.op) 1 with
  | true=>ia F h.n dp.look=true∧oL h h.n (b7 F dp.foot)=true∧xw ⟨h.n,bo h (b7 F dp.foot) .nil⟩ (Ji P G o.op ⟨F.n,bF F dp.look .nil⟩ ⟨h.n,bo h (b7 F dp.foot) .nil⟩) x xs fun hw=>
   match kF h ⟨h.n,bo h (b7 F dp.foot) .nil⟩ (b7 F dp.foot) (some (.val gZ hw)) with
   | some (v,h',rec)=>K d' v h' rec
   | none=>False
  | false=>False
 | .upd es c d'=>match Nat.beq (cO o.op) 1 with
  | true=>ia F h.n dp.look=true∧oL h h.n (b7 F dp.foot)=true∧xq o.op ⟨h.n,bo h (b7 F dp.foot) .nil⟩ (oS P G o.op ⟨F.n,bF F dp.look .nil⟩) es c fun hw=>
   match kF h ⟨h.n,bo h (b7 F dp.foot) .nil⟩ (b7 F dp.foot) (some (.val gZ hw)) with
   | some (v,h',rec)=>K d' v h' rec
   | none=>False
  | false=>False
 | .apx xs d'=>match Nat.beq (cO o.op) 1 with
  | true=>ia F h.n dp.look=true∧oL h h.n (b7 F dp.foot)=true∧G5 ⟨h.n,bo h (b7 F dp.foot) .nil⟩ (KR P G o.op ⟨F.n,bF F dp.look .nil⟩ ⟨h.n,bo h (b7 F dp.foot) .nil⟩) xs fun v hw=>
   match kF h ⟨h.n,bo h (b7 F dp.foot) .nil⟩ (b7 F dp.foot) (some (.val v hw)) with
   | some (v,h',rec)=>K d' v h' rec
   | none=>False
  | false=>False
 | .app d'=>match Nat.beq (cO o.op) 1 with
  | true=>ia F h.n dp.look=true∧oL h h.n (b7 F dp.foot)=true∧uv ((e9 P G o.op).run ⟨F.n,bF F dp.look .nil⟩ ⟨h.n,bo h (b7 F dp.foot) .nil⟩) fun v hw=>
   match kF h ⟨h.n,bo h (b7 F dp.foot) .nil⟩ (b7 F dp.foot) (some (.val v hw)) with
   | some (v,h',rec)=>K d' v h' rec
   | none=>False
  | false=>False
 | .opv v hw d'=>match Nat.beq (cO o.op) 1 with
  | true=>ia F h.n dp.look=true∧oL h h.n (b7 F dp.foot)=true∧(e9 P G o.op).run ⟨F.n,bF F dp.look .nil⟩ ⟨h.n,bo h (b7 F dp.foot) .nil⟩=some (.val v hw)∧
   match kF h ⟨h.n,bo h (b7 F dp.foot) .nil⟩ (b7 F dp.foot) (some (.val v hw)) with
   | some (v,h',rec)=>K d' v h' rec
   | none=>False
  | false=>False
 | .val v d'=>match Nat.beq (cO o.op) 0 with
  | true=>(e9 P G o.op).run ⟨F.n,bF F dp.look .nil⟩ ⟨1000000,bo h (b7 F dp.foot) .nil⟩=some (.val v ⟨1000000,bo h (b7 F dp.foot) .nil⟩)∧K d' v h (Ev.rd (b7 F dp.foot))
  | false=>False
 | .elem x d'=>match Nat.beq (cO o.op) 0 with
  | true=>tT (Gm P G o.op ⟨F.n,bF F dp.look .nil⟩) x (K d' (.pptr [x] 0 0) h (Ev.rd (b7 F dp.foot)))
  | false=>False
 | .efx same v h' d'=>lk ((e9 P G o.op).run ⟨F.n,bF F dp.look .nil⟩ h) fun f args=>match ia F h.n dp.look && Nat.ble h.n h'.n && (same || na h h' h.n) with
  | true=>m7 h h.n h.n∧UH same h h' h.n∧aF P G f args h (fun v1 h1=>v1=v∧h1=h')∧K d' v h' ⟨⟨true, [],h.n,h.n⟩,⟨ax same, [],h.n,h'.n⟩⟩
  | false=>False
 | .efd v h' d'=>lk ((e9 P G o.op).run ⟨F.n,bF F dp.look .nil⟩ h) fun f args=>match ia F h.n dp.look && fW h h.n h.n && Nat.ble h.n h'.n && na h h' h.n with
  | true=>aF P G f args h (fun v1 h1=>v1=v∧h1=h')∧K d' v h' ⟨⟨true, [],h.n,h.n⟩,⟨true, [],h.n,h'.n⟩⟩
  | false=>False
 | .slp ys d'=>match Nat.beq (cO o.op) 0 with
  | true=>xj (Jw P G o.op ⟨F.n,bF F dp.look .nil⟩) ys fun v=>K d' v h (Ev.rd (b7 F dp.foot))
  | false=>False
 | .look v d'=>match Nat.beq (cO o.op) 0 with
  | true=>tc o.op ⟨1000000,bo h (b7 F dp.foot) .nil⟩ (oS P G o.op ⟨F.n,bF F dp.look .nil⟩) v (K d' v h (Ev.rd (b7 F dp.foot)))
  | false=>False
 | .pk w d'=>match Nat.beq (cO o.op) 0 with
  | true=>C7 w (XH G w o.op ⟨F.n,bF F dp.look .nil⟩) fun v=>K d' v h (Ev.rd (b7 F dp.foot))
  | false=>False
 | .pure v d'=>lk ((e9 P G o.op).run ⟨F.n,bF F dp.look .nil⟩ h) fun f args=>match Nat.beq (aq args) 0 && Nat.beq v.top 0 with
  | true=>aO P G f args v∧K d' v h (Ev.rd [])
  | false=>False
 | .fsl _ _ _ ys d'=>uv ((e9 P G o.op).run ⟨F.n,bF F dp.look .nil⟩ AHeap.none) fun v h1=>match ia F 0 dp.look with
  | true=>Le (.ls ys) (ft 0 0 v h1).1∧K d' (.ls ys) h (Ev.rd [])
  | false=>False
 | _=>False
def Wx (ops:Array Oper) (masks:List (Nat × Nat)):List Oper→Nat→D→Fr→AHeap→List Rec→(D→St→Prop)→Prop
 | [],_,d,F,h,_,K=>match Nat.ble h.n 1000000 with | true=>K d ⟨F,h⟩ | false=>False
 | o::r,k,d,F,h,rs,K=>XP (AP ⟨F.n,bF F (o.looksAt ops) .nil⟩ (ez ops o)) d
  (fun d=>Xt P G call o (YM P G ops o) d F h fun d v h' rec=>AK masks k rec rs (lD F o.dst v fun F'=>Wx ops masks r (k+1) d F' h' (rec::rs) K))
  (fun d=>AK masks k (Ev.rd []) rs (lD F o.dst gZ fun F'=>Wx ops masks r (k+1) d F' h (Ev.rd []::rs) K))
def Yl (v:Option AV) (d:D) (a b:D→Prop):Prop:=
 match v with
 | some (.bool t)=>match d with
  | .go n d'=>match t with | true=>a (nx n d') | false=>b (nx n d')
  | .tt d'=>t=true∧a d'
  | .ff d'=>t=false∧b d'
  | .br d1 d2=>(t=true→a d1)∧(t=false→b d2)
  | _=>False
 | _=>False
structure WC where
 run:D→St→(AExit→D→St→Prop)→Prop
def UG (b:WC) (K:AExit→D→St→Prop) (e:AExit) (d:D) (s:St):Prop:=match e with | .normal=>b.run d s K | e=>K e d s
def Uj (n:Nat) (ts:List Nat) {X:Type} (S:X→List AV × List AObj) (I:X→Prop) (K:AExit→D→St→Prop) (e:AExit) (d:D) (s:St):Prop:=match e with
 | .normal=>pre m d s fun _ s=>match Nat.beq s.tmps.n n,o5 s.tmps ts,eJ s.heap s.heap.n 0 with
  | true,some vs,some os=>∃ y,I y∧(vs,os)=S y
  | _,_,_=>False
 | e=>K e d s
def XS (a b:WC) (d:D) (s:St) (K:AExit→D→St→Prop):Prop:=match d with
 | .join _ ts S I d1 d2=>a.run d1 s (Uj m s.tmps.n ts S I K)∧∀ x,I x→b.run (d2 x) (RF s.tmps.n ts (S x)) K
 | .inn d=>a.run d s (UG b K)
 | d=>a.run d s (UG b K)
def WM (id:Nat) (K:AExit→D→St→Prop) (e:AExit) (d:D) (s:St):Prop:=match e with
 | .exit k=>match Nat.beq k id with | true=>K .normal d s | false=>K (.exit k) d s
 | e=>K e d s
def yd (n:Nat) (ts:List Nat) {X:Type} (S:X→List AV × List AObj) (I:X→Prop) (ms:X→Nat) (x:X) (K:AExit→D→St→Prop) (e:AExit) (d:D) (s:St):Prop:=match e with
 | .normal=>pre m d s fun _ s=>match Nat.beq s.tmps.n n,o5 s.tmps ts,eJ s.heap s.heap.n 0 with
  | true,some vs,some os=>Nx I ms S x (vs,os)
  | _,_,_=>False
 | e=>K e d s
def XR (b:WC) (K:AExit→D→St→Prop):Nat→AExit→D→St→Prop
 | 0,e,d,s=>match e with | .normal=>False | e=>K e d s
 | n+1,e,d,s=>match e with | .normal=>b.run d s (XR b K n) | e=>K e d s
def Uz (b:WC) (d:D) (s:St) (K:AExit→D→St→Prop):Prop:=match d with
 | .loop _ ts S I ms x0 db=>match o5 s.tmps ts,eJ s.heap s.heap.n 0 with
  | some vs,some os=>(vs,os)=S x0∧I x0∧∀ x,I x→b.run (db x) (RF s.tmps.n ts (S x)) (yd m s.tmps.n ts S I ms x K)
  | _,_=>False
 | .loop2 _ _ ts S S' I I' ms ms' x0 db db'=>match o5 s.tmps ts,eJ s.heap s.heap.n 0 with
  | some vs,some os=>(vs,os)=Sum.elim S S' x0∧Sum.elim I I' x0∧
   (∀ x,I x→b.run (db x) (RF s.tmps.n ts (S x)) (yd m s.tmps.n ts (Sum.elim S S') (Sum.elim I I') (Sum.elim ms ms') (.inl x) K))∧
   (∀ x,I' x→b.run (db' x) (RF s.tmps.n ts (S' x)) (yd m s.tmps.n ts (Sum.elim S S') (Sum.elim I I') (Sum.elim ms ms') (.inr x) K))
  | _,_=>False
 | .un n d'=>b.run d' s (XR b K n)
 | _=>False
def WP:Code→WC
 | .skip | .label _=>⟨fun d s K=>K .normal d s⟩
 | .region _ ops draw=>match draw with
  | false=>⟨fun d s K=>Wz P G call m ops ops.toList d s (K .normal)⟩
  | true=>⟨fun d s K=>pre m d s fun d s=>match Df P G ops with
   | true=>Wx P G call ops (dM ops.toList 0 []) ops.toList 0 d s.tmps s.heap [] (K .normal)
   | false=>False⟩
 | .seq a b=>⟨fun d s K=>XS m (WP a) (WP b) d s K⟩
 | .cond c a b=>⟨fun d s K=>pre m d s fun d s=>Yl ((co G c).run s.tmps) d (fun d=>(WP a).run d s K) (fun d=>(WP b).run d s K)⟩
 | .block id b=>⟨fun d s K=>(WP b).run d s (WM id K)⟩
 | .loop b=>⟨fun d s K=>pre m d s fun d s=>Uz m (WP b) d s K⟩
 | .exit id=>⟨fun d s K=>K (.exit id) d s⟩
 | .scope b=>⟨fun d s K=>(WP b).run d s K⟩
 | .ret=>⟨fun d s K=>K .ret d s⟩
 | _=>⟨fun _ _ _=>False⟩
end
def Dg (P:Program) (m:Nat) (res:List ResultVar) (Ψ:AV→AHeap→Prop) (e:AExit) (d:D) (s:St):Prop:=match e with
 | .exit _=>False
 | _=>pre m d s fun _ s=>match eM (eR P res s.tmps s.heap) with
  | some u=>Ψ u s.heap
  | none=>False
end
theorem Nx.mk {X:Type} {I:X→Prop} {m:X→Nat} {S:X→List AV × List AObj} {x:X} (y:X) (h1:I y) (h2:m y<m x):Nx I m S x (S y):=⟨y,h1,h2,rfl⟩
section
variable {P : Program} {G : eh} {call : cQ} {m : Nat} {ops : Array Oper} {l : List Oper} {o : Oper} {s s' : St} {h h' : AHeap} {v : AV} {A A' F : Fr} {f : FuncId} {args : List AV} {c : Code} {n t : Nat}
theorem PP {g:Option (Option Tmp × Bool)} (h:AP A g = .yes):ed A g=some true:=by
 unfold AP at h;split at h
 ·rfl
 all_goals grind
theorem TX {g:Option (Option Tmp × Bool)} (h:AP A g = .no):ed A g=some false:=by
 unfold AP at h;split at h
 ·grind
 ·grind [ed]
 ·simp [ed]
theorem PR {b want:Bool} {g:Option (Option Tmp × Bool)} (h:AP A g = .sym b want):ed A g=some (b == want):=by
 unfold AP at h;split at h
 ·grind
 ·split at h
  ·rename_i d w b' q;cases h
   simp only [ed,q];cases b <;> cases want <;> rfl
  all_goals simp_all
 grind
theorem FX {want:Bool} {a b:Prop} {Q:Prop} (h:tq want a b) (ha:want=true→a→Q) (hb:want=false→b→Q):Q:=by
 cases want
 ·exact hb rfl h
 ·exact ha rfl h
theorem Rw {g:Option (Option Tmp × Bool)} {d:D} {y n:D→Prop} {Q:Prop} (h:XP (AP A g) d y n) (hy:ed A g=some true→∀ d,y d→Q) (hn:ed A g=some false→∀ d,n d→Q):Q:=by
 cases hg:AP A g with
 | yes=>rw [hg] at h;exact hy (PP hg) d h
 | no=>rw [hg] at h;exact hn (TX hg) d h
 | bad=>rw [hg] at h;exact h.elim
 | sym b want=>
  rw [hg] at h;have e:=PR hg;have t1:b=true→∀ d,tq want (y d) (n d)→Q:=by
   intro hb d hp;subst hb;refine FX hp (fun hw k=>hy (by simp_all) d k) (fun hw k=>hn (by simp_all) d k)
  have t2:b=false→∀ d,tq want (n d) (y d)→Q:=by
   intro hb d hp;subst hb;refine FX hp (fun hw k=>hn (by simp_all) d k) (fun hw k=>hy (by simp_all) d k)
  cases d <;> simp only [XP] at h
  case tt d'=>grind
  case ff d'=>grind
  case br d1 d2=>
   cases hb:b with
   | true=>grind
   | false=>grind
  all_goals
   cases hb:b with
   | true=>rw [hb] at h;exact t1 hb _ h
   | false=>rw [hb] at h;exact t2 hb _ h
theorem bp {dst:Option Tmp} {K:Fr→Prop} (h:lD A dst v K) : ∃ A',iH A dst v=some A'∧K A':=by grind [lD]
theorem jF {r:Option ARes} {K:FuncId→List AV→Prop} (h:lk r K) : ∃ f args,r=some (.call f args)∧K f args:=by
 unfold lk at h;grind
theorem iM {n:Nat} : ∀ {k:Nat},m7 h n k→fW h n k=true
 | 0,_=>rfl
 | k+1,hc=>by
  simp only [m7] at hc;simp only [fW];cases hg:h.get k with
  | none=>rw [hg] at hc;exact iM hc
  | some o=>rw [hg] at hc;simp only [hc.1];exact iM hc.2
theorem R6 {ids pl:List Nat} {is:List Nat} {K:List AObj→Prop} (e:Ov h ids pl is K) : ∃ os,K os∧os.length=is.length∧∀ (j:Nat) (o':AObj),os[j]? = some o'→∃ o,h.get (fC is j)=some o∧jT (fC ids) o'=o∧o'.top≤ids.length:=by
 induction is generalizing K with
 | nil=>exact ⟨[],e,rfl,fun j o' h=>by simp_all⟩
 | cons x r ih=>
  simp only [Ov] at e;split at e
  ·rename_i o ho;split at e
   ·obtain ⟨h0,e⟩:=e;obtain ⟨os,k1,k2,k3⟩:=ih e;refine ⟨o::os,k1,by simp_all,fun j o' hj=>?_⟩;cases j with
    | zero=>simp at hj;subst hj;exact ⟨o,ho,Hu _ o h0,by omega⟩
    | succ j=>exact k3 j o' (by simp_all)
   ·split at e
    ·rename_i hw;obtain ⟨os,k1,k2,k3⟩:=ih e;refine ⟨_::os,k1,by simp_all,fun j o' hj=>?_⟩;cases j with
     | zero=>simp at hj;subst hj;exact ⟨o,ho,Ly o hw⟩
     | succ j=>exact k3 j o' (by simp_all)
    simp_all
  simp_all
theorem Bp : ∀ {l:List AV},CT l=true→∀ y,y∈l→cG y=true
 | x::r,h,y,hy=>by
  simp only [CT,bJ] at h;rcases eP.1 hy with rfl | hy
  ·simp_all
  ·exact Bp h.2 y hy
theorem HX {α:Type} (d:Nat) : ∀ (t:Tr α) (n:Nat) (x:α) (m:Nat) (y:α),n+1<2 ^ d→m≠n→t.get m=some y→(Tr.set d t n x).get m=some y:=by
 induction d with
 | zero=>omega
 | succ d ih=>
  intro t n x m y hn hne h;have hn2 : ∀ k,n=k+1→k / 2+1<2 ^ d:=by omega
  cases t with
  | nil=>grind [fc]
  | node l v r=>
   cases n with
   | zero=>
    rw [oz];cases m with
    | zero=>omega
    | succ m=>grind [eE]
   | succ n=>
    have hb:=hn2 n rfl;rw [ox];cases m with
    | zero=>grind [ll]
    | succ m=>
     rw [eE] at h;by_cases hn:n % 2=0
     ·rw [if_pos hn,eE];grind
     ·rw [if_neg hn,eE];grind
theorem oy {h:AHeap} {o o':AObj} {id k:Nat} (hn:id<1000000) (hne:k≠id) (hg:h.get k=some o'):(h.put id o).get k=some o':=by
 rw [AHeap.get_some] at hg ⊢;exact ⟨hg.1,hg.2.1,HX 20 h.t id o k o' (by omega) hne hg.2.2⟩
theorem bR.obw {b:Option Nat} {i sz ep:Nat} {op:Bool} {v u:AV} (hg:s.heap.get i=some (.row sz op ep [v])) (hl:u.cells.length=v.cells.length) (hsc : ∀ y,y∈u.cells→cG y=true) (hle : ∀ (j:Nat) (y:AV),u.cells[j]? = some y→∃ x:AV,v.cells[j]? = some x∧Le y x) :
  bR G b s ⟨s.tmps,s.heap.put i (.row sz op ep [u])⟩:=by
 have hi:=(AHeap.get_some.1 hg).2.1;intro N h0 pl0 M0 w0 a w hb ⟨⟨pl,M,g1,g2,g3,g4,g5⟩,k1,k2⟩;refine ⟨⟨pl,M,g1,⟨g2.dom,fun id p o hp hgo=>?_,g2.blk,g2.inj,g2.imm,g2.sep⟩,g3,⟨g4.ext,g4.new,g4.mem,g4.size,g4.kept,g4.blks,fun id p hp hgo=>?_,g4.stay,g4.memNew,g4.os,g4.tape,g4.out,g4.drawn⟩,g5⟩,k1,k2⟩
 ·rcases AHeap.get_put hi hgo with ⟨rfl,rfl⟩ | ⟨_,h2⟩
  ·have ho:=g2.obj _ p _ hp hg;generalize w.heap[p.blk]? = ob at ho
   match ob,ho with
   | some (.cells c t fr),ho=>
    obtain ⟨e1,e2,e3,e4,e5,e6,e7,e8⟩:=ho;refine ⟨e1,e2,e3,e4,e5,e6,e7,e8.fit,fun x hx=>?_,fun j x q y hj hq=>?_⟩
    ·simp only [pE] at hx;subst hx;exact ⟨hl.trans (e8.elem v (fg ..)).1,hsc⟩
    ·cases j with
     | zero=>
      simp only [BX,wG] at hj;subst hj;obtain ⟨z,z1,z2⟩:=hle q y hq;exact z2 _ _ _ (e8.cell 0 v q z rfl z1)
     | succ j=>simp_all
  ·exact g2.obj id p o hp h2
 ·have:=g4.live id p hp hgo;cases hcp:(s.heap.put i (.row sz op ep [u])).get id with
  | none=>rfl
  | some o=>
   rcases AHeap.get_put hi hcp with ⟨rfl,rfl⟩ | ⟨_,h2⟩
   all_goals simp_all
theorem HZ (hG:iD G) {m k i:Nat} {o0 o':AObj} {ts:List Nat} {L:List (Nat × AV)} {os:List AObj} (hm:m≤k) (hk:k≤s.heap.n) (hgi:s.heap.get i=some o0)
  (hO : ∀ (pl:Pl) (M:dl) (w:World) (p:Place),cE pl M s.heap w→pl i=some p→bf (cS pl k) (lx pl M w k) p o' w.heap[p.blk]?)
  (hc : ∀ id o,id<k→(s.heap.put i .dead).get id=some o→o.top≤k) (e:Ev.frzL s.tmps s.heap k ts=some L) (ho:eJ (s.heap.put i o') k 0=some os):bR G (some m) s ⟨dR s.tmps.n L,ay os⟩:=by
 have hi:=(AHeap.get_some.1 hgi).2.1;have e0 : ∀ t u,(t,u)∈L→∃ v,s.tmps.get t=some v∧Plain s.heap k v u:=fun t u h=>by grind [qe,Plain.frz]
 have key:bR G (some m) s ⟨dR s.tmps.n L,(s.heap.put i o').cut k⟩:=by
  intro N h0 pl0 M0 w0 a w hb ⟨⟨pl,M,g1,g2,g3,g4,g5⟩,k1,k2⟩;obtain ⟨b1,b2⟩:=hb m rfl;have hlow : ∀ id p,pl0 id=some p→id<k:=fun id p hp=>Ey (b2 id p hp) hm
  have h1:cE pl M (s.heap.put i .dead) w:=⟨g2.dom,fun id2 p o hp hgo=>by
   rcases AHeap.get_put hi hgo with ⟨rfl,rfl⟩ | ⟨_,h2⟩
   ·simp [bf]
   ·exact g2.obj id2 p o hp h2,g2.blk,g2.inj,g2.imm,g2.sep⟩
  have h2:cE (cS pl k) (lx pl M w k) ((s.heap.put i .dead).cut k) w:=h1.dropped (n:=k) hk hc;have h3:cE (cS pl k) (lx pl M w k) ((s.heap.put i o').cut k) w:=⟨h2.dom,fun id2 p o hp hgo2=>by
   obtain ⟨z1,z2⟩:=hJ (h:=s.heap.put i o') hk hgo2;obtain ⟨hp1,hp2⟩:=aG.1 hp;rcases AHeap.get_put hi z2 with ⟨rfl,rfl⟩ | ⟨z3,z4⟩
   ·simp_all
   ·have hcut:((s.heap.put i .dead).cut k).get id2=some o:=by
     have q3:=AHeap.get_some.1 (oy (h:=s.heap) (o:= .dead) hi z3 z4);exact AHeap.get_some.2 ⟨z1,q3.2.1,q3.2.2⟩
    exact h2.obj id2 p o hp hcut,h2.blk,h2.inj,h2.imm,h2.sep⟩
  refine ⟨⟨cS pl k,lx pl M w k,(g1.none hG).mono (nX.refl _) (fz k),h3,⟨g3.size,g3.defers,fun t u ht=>?_⟩,⟨?_,?_,?_,g4.size,g4.kept,?_,?_,?_,?_,g4.os,g4.tape,g4.out,g4.drawn⟩,by show h0.n≤k;omega⟩,k1,k2⟩
  ·obtain ⟨v,q1,q2⟩:=e0 t u (tv ht);obtain ⟨q3,q4⟩:=g3.at_ t v q1;exact ⟨q3,q2 _ _ _ _ _ g2 (fz k) (fun id p sz op ep xs c t fr z1 z2 _ z4=>oY g2 z1 z2 z4) q4⟩
  ·intro id p hp;obtain ⟨p',q1,q2⟩:=g4.ext id p hp;exact ⟨p',aG.2 ⟨hlow id p hp,q1⟩,q2⟩
  ·intro id hid hp;have:=g4.new id hid hp;cases hcp:cS pl k id with
   | none=>rfl
   | some q=>rw [(aG.1 hcp).2] at this;omega
  ·exact fun b c hb=>fz k b c (g4.mem b c hb)
  ·exact fun id p' hp'=>g4.blks id p' (aG.1 hp').2
  ·intro id2 p hp hg;have:=g4.live id2 p hp hg;cases hcp:((s.heap.put i o').cut k).get id2 with
   | none=>rfl
   | some o=>
    rcases AHeap.get_put hi (hJ (h:=s.heap.put i o') hk hcp).2 with ⟨rfl,rfl⟩ | ⟨_,z⟩
    all_goals simp_all
  ·exact fun id p hp hg=>aG.2 ⟨hlow id p hp,g4.stay id p hp hg⟩
  ·intro b c hb;rcases io hb with q | ⟨⟨id,p,q1,q2,q3⟩,_⟩
   ·exact g4.memNew b c q
   ·rcases g4.blks id p q2 with ⟨p0,q4,_⟩ | q4
    all_goals grind
 refine bR.trans key (bR.sub ⟨rfl,fun _ _ h=>h,?_,fun id o h=>?_⟩)
 ·obtain ⟨q1,q2⟩:=dL k 0 os ho;show k≤(ay os).n
  grind [ay]
 ·obtain ⟨q1,q2⟩:=dL k 0 os ho;have hx:=nw h;have h4:=q2 id o hx;rw [gY] at h4;have hlt:id<k:=by grind
  have h5:=AHeap.get_some.1 h4;exact AHeap.get_some.2 ⟨hlt,h5.2.1,h5.2.2⟩
theorem bR.fzo (hG:iD G) {m k i sz ep' id ep off len sz2:Nat} {cap:Option Nat} {op op2:Bool} {xs ys:List AV} {ts:List Nat} {L:List (Nat × AV)} {os:List AObj} (hm:m≤k) (hk:k≤s.heap.n)
  (hgi:s.heap.get i=some (.row sz op ep' [.slice id ep off len cap])) (hid:k≤id) (hgo:s.heap.get id=some (.row sz2 op2 ep xs)) (hy:(xs.drop off).take len=ys) (ht:aq ys=0)
  (hc:fW (s.heap.put i .dead) k k=true) (e:Ev.frzL s.tmps s.heap k ts=some L) (ho:eJ (s.heap.put i (.row sz op ep' [.ls ys])) k 0=some os):bR G (some m) s ⟨dR s.tmps.n L,ay os⟩:=by
 refine HZ hG hm hk hgi (fun pl M w p g2 hp2=>?_) (fun id o q1 q2=>gJ k hc id o q1 q2) e ho;have hob:=g2.obj _ p _ hp2 hgi;generalize w.heap[p.blk]? = ob at hob
 match ob,hob with
 | some (.cells c t fr),hob=>
  obtain ⟨e1,e2,e3,e4,e5,e6,e7,e8⟩:=hob;refine ⟨e1,e2,e3,e4,e5,e6,e7,e8.fit,fun x hx=>?_,fun j x q y hj hq=>?_⟩
  ·simp only [pE] at hx;subst hx;exact ⟨(e8.elem (.slice id ep off len cap) (fg ..)).1,fun y hy=>by simp only [AV.cells,pE] at hy;subst hy;rfl⟩
  ·cases j with
   | zero=>
    simp only [BX,wG] at hj;subst hj;cases q with
    | zero=>
     simp only [AV.cells,BX,wG] at hq;subst hq;have hv:=e8.cell 0 _ 0 _ rfl rfl;exact .lsp (Plain.slice hgo hid hy ht pl M (lx pl M w k) w _ g2 (fz k) (fun id p sz op ep xs c t fr z1 z2 _ z4=>oY g2 z1 z2 z4) hv).loose ht
    | succ q=>grind [AV.cells]
   | succ j=>simp_all
theorem bR.fza (hG:iD G) {m k i j sz ep':Nat} {op:Bool} {cs ys:List AV} {ts:List Nat} {L:List (Nat × AV)} {os:List AObj} (hm:m≤k) (hk:k≤s.heap.n)
  (hgi:s.heap.get i=some (.row sz op ep' [.agg cs])) (v:AV) (hj:jk cs j=some v) (hvs:cG v=true) (hpl : ∀ (pl:Pl) (M Md:dl) (w:World) (x:Value),cE pl M s.heap w→pt M Md→(∀ id p sz op ep xs c t fr,k≤id→pl id=some p→s.heap.get id=some (.row sz op ep xs)→w.heap[p.blk]? = some (.cells c t fr)→Md p.blk=some c)→VRel pl M v x→VRel (cS pl k) Md (.ls ys) x)
  (hik:i<k) (hc:fW (s.heap.put i (.row sz op ep' [.agg (cs.set j (.ls ys))])) k k=true) (e:Ev.frzL s.tmps s.heap k ts=some L) (ho:eJ (s.heap.put i (.row sz op ep' [.agg (cs.set j (.ls ys))])) k 0=some os):bR G (some m) s ⟨dR s.tmps.n L,ay os⟩:=by
 have hi:=(AHeap.get_some.1 hgi).2.1;have hcl:=fun id o q1 q2=>gJ k hc id o q1 q2
 have htop:aq (cs.set j (.ls ys))≤k:=by
  obtain ⟨q1,q2⟩:=dL k 0 os ho;have hx:os[i]? = some os[i]:=lm (by omega);have h4:=q2 i _ hx;rw [gY] at h4;rcases AHeap.get_put hi h4 with ⟨_,h5⟩ | ⟨h5,_⟩
  ·grind [AObj.top,aq,AV.top,qx]
  omega
 refine HZ hG hm hk hgi (fun pl M w p g2 hp2=>?_) (fun id o q1 q2=>?_) e ho
 ·have hob:=g2.obj _ p _ hp2 hgi;generalize w.heap[p.blk]? = ob at hob
  match ob,hob with
  | some (.cells c t fr),hob=>
   obtain ⟨e1,e2,e3,e4,e5,e6,e7,e8⟩:=hob;have hel:=e8.elem (.agg cs) (fg ..);refine ⟨e1,e2,e3,e4,e5,e6,e7,e8.fit,fun x hx=>?_,fun n x q y hn hq=>?_⟩
   ·simp only [pE] at hx;subst hx;refine ⟨by grind [AV.cells],fun y hy=>?_⟩;simp only [AV.cells] at hy;rcases List.mem_or_eq_of_mem_set hy with h | h
    ·exact hel.2 y h
    ·subst h;rfl
   ·cases n with
    | zero=>
     simp only [BX,wG] at hn;subst hn;simp only [AV.cells] at hq;rw [List.getElem?_set] at hq;split at hq
     ·rename_i hqj;subst hqj;split at hq
      ·cases hq
       have hv:=e8.cell 0 _ j _ rfl (by rw [oM] at hj;exact hj);grind [fz,oY]
      grind
     ·rename_i hne;have hv:=e8.cell 0 _ q y rfl hq;refine hv.agree (n:=k) (dr.1 htop y (bm (i:=q) ?_)) dF (fz k);simp_all
    | succ n=>simp_all
 ·rcases AHeap.get_put hi q2 with ⟨_,rfl⟩ | ⟨h1,h2⟩
  ·exact bG _
  grind [oy]
theorem eg {dst:Option Tmp} (h:iH A dst v=some A'):A'.n=A.n:=by
 cases dst with
 | none=>grind [iH]
 | some t=>
  have hp':A.put t v=some A':=h;grind [Fr.put]
theorem sJ (hG:iD G) {Q:Prop} : ∀ {d:D} {s:St} {K:D→St→Prop},s.tmps.n≤60000→pre m d s K→(∀ d' s',s'.tmps.n=s.tmps.n→bR G (some m) s s'→K d' s'→Q)→Q:=by
 intro d;induction d with
 | le t u d ih=>
  intro s K hn h k;simp only [pre] at h;split at h
  ·rename_i v hv;obtain ⟨h1,h2⟩:=h;split at h2
   ·rename_i A' hp;have hn':A'.n=s.tmps.n:=by
     have hp':s.tmps.put t u=some A':=hp;grind [Fr.put]
    refine ih (by simp_all) h2 fun d' s' e1 e2 e3=>k d' s' (by simp_all) ?_ e3
    exact bR.trans (bR.put (A:=s.tmps) (h:=s.heap) hn hv h1 hp) e2
   simp_all
  simp_all
 | frz k0 ts d ih=>
  intro s K hn h k;simp only [pre] at h;split at h
  ·rename_i hck;simp only [bX,bJ,decide_eq_true_eq] at hck;obtain ⟨c1,c2⟩:=hck;obtain ⟨c3,h⟩:=h;have c3:=iM c3;split at h
   ·rename_i L hL;split at h
    ·rename_i os ho;exact ih (s:=⟨dR s.tmps.n L,ay os⟩) hn h fun d' s' e1 e2 e3=>k d' s' e1 (bR.trans (bR.frzL hG c1 c2 c3 hL ho) e2) e3
    simp_all
   simp_all
  simp_all
 | psh o d ih=>grind [pre,bR.trans,bR.psh]
 | frl k0 ts ls d ih=>
  intro s K hn h k;simp only [pre] at h;split at h
  ·rename_i hck;simp only [bX,bJ,decide_eq_true_eq] at hck;obtain ⟨c1,c2⟩:=hck;obtain ⟨c3,c4,h⟩:=h;split at h
   ·rename_i L K' os hL hK ho;exact ih (s:=⟨dR s.tmps.n (K'++L),ay os⟩) hn h fun d' s' e1 e2 e3=>k d' s' e1 (bR.trans (bR.frl hG c1 c2 (iM c3) hL hK c4 ho) e2) e3
   simp_all
  simp_all
 | fsl k0 ts t ys d ih=>
  intro s K hn h k;simp only [pre] at h;split at h
  ·rename_i hck;simp only [bX,bJ,decide_eq_true_eq] at hck;obtain ⟨c1,c2⟩:=hck;obtain ⟨c3,h⟩:=h;have c3:=iM c3;split at h
   ·rename_i L id ep off len cap hL ht;split at h
    ·rename_i sz op ep' xs os hid hg ho;simp only [bX,decide_eq_true_eq] at hid;obtain ⟨⟨rfl,q2,q3⟩,h⟩:=h;exact ih (s:=⟨dR s.tmps.n ((t, .ps ys (n5 cap (some len)))::L),ay os⟩) hn h fun d' s' e1 e2 e3=>k d' s' e1 (bR.trans (Nk hG c1 c2 c3 hL ho ht hid hg q2 q3) e2) e3
    simp_all
   simp_all
  simp_all
 | ren ids pl ts d ih=>
  intro s K hn h k;simp only [pre] at h;split at h
  ·rename_i hck;simp only [bJ] at hck;split at h
   ·rename_i L hL;obtain ⟨os,h,o1,o2⟩:=R6 (is:=ids) h;exact ih (s:=⟨dR s.tmps.n L,ay os⟩) hn h fun d' s' e1 e2 e3=>k d' s' e1 (bR.trans (Nj hG hck.1 hck.2 hL o1 o2) e2) e3
   simp_all
  simp_all
 | obj i o d ih=>
  intro s K hn h k;simp only [pre] at h;split at h
  ·rename_i o' ho;obtain ⟨rfl,h⟩:=h;have hS:SubSt ⟨s.tmps,s.heap.put i o'⟩ s:=by
    refine ⟨rfl,fun _ _ h=>h,ah _,fun id o hh=>?_⟩;rcases AHeap.get_put (AHeap.get_some.1 ho).2.1 hh with ⟨rfl,rfl⟩ | ⟨_,h2⟩
    all_goals omega
   exact ih (s:=⟨s.tmps,s.heap.put i o'⟩) hn h fun d' s' e1 e2 e3=>k d' s' e1 (bR.trans (bR.sub hS) e2) e3
  simp_all
 | obw i u d ih=>
  intro s K hn h k;simp only [pre] at h;split at h
  ·rename_i sz op ep v hg;split at h
   ·rename_i hck;simp only [bJ,an,decide_eq_true_eq] at hck;exact ih (s:=⟨s.tmps,s.heap.put i (.row sz op ep [u])⟩) hn h.2 fun d' s' e1 e2 e3=>k d' s' e1 (bR.trans (bR.obw hg hck.1.1 (Bp hck.2) h.1) e2) e3
   simp_all
  simp_all
 | fzo i k0 ts ys d ih=>
  intro s K hn h k;simp only [pre] at h;split at h
  ·rename_i hck;simp only [bX,dh,bJ,decide_eq_true_eq] at hck;split at h
   ·rename_i sz op ep' id ep off len cap hg;split at h
    ·rename_i sz2 op2 ep2 xs L os hid hgo hL ho;simp only [bX,decide_eq_true_eq] at hid;obtain ⟨c3,⟨rfl,q2,q3⟩,h⟩:=h;exact ih (s:=⟨dR s.tmps.n L,ay os⟩) hn h fun d' s' e1 e2 e3=>k d' s' e1 (bR.trans (bR.fzo hG hck.1.1 hck.1.2 hg hid hgo q2 q3 (iM c3) hL ho) e2) e3
    simp_all
   simp_all
  simp_all
 | fza i j k0 ts ys d ih=>
  intro s K hn h k;simp only [pre] at h;split at h
  ·rename_i hck;simp only [bX,dh,bJ,decide_eq_true_eq] at hck;split at h
   ·rename_i sz op ep' cs hg;split at h
    ·rename_i id ep off len cap hj;split at h
     ·rename_i sz2 op2 ep2 xs L os hid hgo hL ho;simp only [bX,decide_eq_true_eq] at hid;obtain ⟨c3,⟨rfl,q2,q3⟩,h⟩:=h;exact ih (s:=⟨dR s.tmps.n L,ay os⟩) hn h fun d' s' e1 e2 e3=>k d' s' e1 (bR.trans (bR.fza hG hck.1.1 hck.1.2 hg _ hj rfl (fun pl M Md w x a1 a2 a3 a4=> .lsp (Plain.slice hgo hid q2 q3 pl M Md w x a1 a2 a3 a4).loose q3) hck.2 (iM c3) hL ho) e2) e3
     simp_all
    ·rename_i id ep len cap hj;split at h
     ·rename_i sz2 op2 ep2 xs L os hid hgo hL ho;simp only [bX,decide_eq_true_eq] at hid;obtain ⟨c3,⟨rfl,q2,q3⟩,h⟩:=h;exact ih (s:=⟨dR s.tmps.n L,ay os⟩) hn h fun d' s' e1 e2 e3=>k d' s' e1 (bR.trans (bR.fza hG hck.1.1 hck.1.2 hg _ hj rfl (fun pl M Md w x a1 a2 a3 a4=>Plain.sl0 hgo hid q2 q3 pl M Md w x a1 a2 a3 a4) hck.2 (iM c3) hL ho) e2) e3
     simp_all
    simp_all
   simp_all
  simp_all
 | cs T l a b iha ihb=>
  intro s K hn h k;simp only [pre] at h;cases hl:l with
  | nil=>grind
  | cons w r=>grind
 | bs t a b iha ihb=>
  intro s K hn h k;simp only [pre] at h;cases ht:t with
  | true=>grind
  | false=>grind
 | abs=>intro s K hn h k;exact h.elim
 | fin | go _ _ _ | val _ _ _ | opv _ _ _ _ | elem _ _ _ | chr _ _ _ | app _ _ | pk _ _ _ | efd _ _ _ | efx _ _ _ _ | look _ _ _ | upd _ _ _ _ | pure _ _ _ | asl _ _ _ | rix _ _ | rld _ _ _ | rst _ _ _ _ | eff _ _ _ _ _ _ | nz _ _ _ _ _ | slc _ _ | slp _ _ _ | apx _ _ _ | apl _ _ | tt _ _ | ff _ _ | br _ _ _ _ | un _ _ _ | inn _ _ | join _ _ _ _ _ _ _ _ | loop _ _ _ _ _ _ _ _ | loop2 _ _ _ _ _ _ _ _ _ _ _ _ _ _=>
  intro s K hn h k;exact k _ s rfl (bR.refl s) h
theorem al.bounded {b:Option Nat} {Φ:AExit→St→Prop} (h:s.tmps.n≤60000→al P G b c s Φ):al P G b c s Φ:=fun N h0 pl0 M0 w0 a w Q hb hs hQ=>h (by grind [cases SNow]) N h0 pl0 M0 w0 a w Q hb hs hQ
theorem cj.bounded {b:Option Nat} {Φ:St→Prop} (h:s.tmps.n≤60000→cj P G b ops l s Φ):cj P G b ops l s Φ:=fun i N h0 pl0 M0 w0 a w Q hb hl hs hQ=>h (by grind [cases SNow]) i N h0 pl0 M0 w0 a w Q hb hl hs hQ
theorem Qy {op:Op} {xs:List AV} {i s:Nat} {x:AV} (e:Gm P G op A=some (xs,i,s)) (hx:jk xs i=some x) (hs:Nat.beq x.cells.length s=true) : ∃ xs' i',(e9 P G op).run A h=some (.val (.pptr xs' i' 0) h)∧jk xs' i'=some x:=by
 unfold Gm at e;split at e
 ·rename_i t y ix;split at e
  ·rename_i el hu;split at e
   ·rename_i s0 hsz;split at e
    ·rename_i ys k hl hi;simp only [wG,sG] at e;obtain ⟨rfl,rfl,rfl⟩:=e;refine ⟨ys,k,?_,hx⟩;simp only [e9,hu,hsz];cases hv:(co G y).run A with
     | none=>rw [hv] at hl;cases hl
     | some v=>
      cases hj:(co G ix).run A with
      | none=>rw [hj] at hi;cases hi
      | some iv=>
       rw [hj] at hi;have hi:fp iv=some k:=hi;rw [hv] at hl;cases v <;> simp only [XW,wG,reduceCtorEq] at hl
       all_goals grind [lW,jv,bj]
    grind
   grind
  grind
 grind
theorem wi {op:Op} {x:AV} {K:Prop} (e:tT (Gm P G op A) x K):(∃ xs i,(e9 P G op).run A h=some (.val (.pptr xs i 0) h)∧jk xs i=some x)∧K:=by
 unfold tT at e;split at e
 ·rename_i xs i s he;split at e
  ·rename_i hs;exact ⟨Qy he e.1 hs,e.2⟩
  simp_all
 simp_all
theorem ID {op:Op} {c:UInt8} {K:Prop} (e:DF (VS P G op A) c K):(e9 P G op).run A h=some (.val (.int .u8 (.ofNat c.toNat)) h)∧K:=by
 unfold DF at e;split at e
 ·rename_i s i he;refine ⟨?_,e.2⟩;unfold VS at he;split at he
  ·rename_i t y ix;split at he
   ·rename_i hu;split at he
    ·rename_i s' k hv hi;simp only [wG,sG] at he;obtain ⟨rfl,rfl⟩:=he;simp only [e9,hu];cases hj:(co G ix).run A with
     | none=>rw [hj] at hi;cases hi
     | some iv=>
      rw [hj] at hi;have hi:fp iv=some k:=hi;grind [G3,bj]
    grind
   grind
  grind
 simp_all
theorem wX {op:Op} {v:AV} {K:Prop} (e:tc op h (oS P G op A) v K):(e9 P G op).run A h=some (.val v h)∧K:=by
 unfold tc at e;split at e
 ·rename_i l hi hl;split at e
  ·rename_i es c hg;refine ⟨?_,e.2⟩;have e1:=e.1;cases op <;> simp only [Pd,reduceCtorEq] at hi
   rename_i t m k ok;simp only [oS] at hl;grind [e9,ta,bj]
  simp_all
 simp_all
theorem yf {op:Op} {K:AV→Prop} (e:xa (Jo P G op A h) K) : ∃ v,(e9 P G op).run A h=some (.val v h)∧K v:=by
 unfold xa at e;split at e
 ·rename_i q he;obtain ⟨⟨e1,e2⟩,e3⟩:=e;refine ⟨_,?_,e3⟩;unfold Jo at he;split at he
  ·rename_i t x ix;split at he
   ·rename_i el hu;split at he
    ·rename_i s0 hsz;split at he
     ·rename_i id ep off len c k hv hi;split at he
      ·rename_i sz op' ep1 xs hg;split at he
       ·rename_i hb;cases he
        simp only at e1 e2;subst e1;cases hj:(co G ix).run A with
        | none=>rw [hj] at hi;cases hi
        | some iv=>
         rw [hj] at hi;have hi:fp iv=some k:=hi;have hlt:Nat.blt k len=true:=by simp_all
         have hb':(Nat.beq sz (s0+1) && Nat.beq ep ep)=true:=by simp_all
         have ha:DT off k=off+k:=by unfold DT;grind
         simp only [e9,hu,hsz,hv,hj,lW,jv,hi,qQ,hg,hb',hlt,bj,ha]
       grind
      grind
     ·rename_i id ep len c k hv hi;split at he
      ·rename_i sz op' ep1 xs hg;split at he
       ·rename_i hb;cases he
        simp only at e1 e2;subst e1;cases hj:(co G ix).run A with
        | none=>rw [hj] at hi;cases hi
        | some iv=>
         rw [hj] at hi;have hi:fp iv=some k:=hi;have hlt:Nat.blt k len=true:=by simp_all
         have hb':(Nat.beq sz (s0+1) && Nat.beq ep ep)=true:=by simp_all
         have ha:DT 0 k=0+k:=by grind [DT]
         simp only [e9,hu,hsz,hv,hj,lW,jv,hi,qQ,hg,hb',hlt,bj,ha]
       grind
      grind
     grind
    grind
   grind
  grind
 simp_all
theorem xe {x:Option Operand} {d n:Nat} {k:Option AV→Option AV} (e:LG G A d x=some n) : ∃ w,qY G x A k=k w∧iS d w=some n:=by
 cases x with
 | none=>exact ⟨none,rfl,e⟩
 | some x=>
  simp only [LG,Py] at e;cases hx:(co G x).run A with
  | none=>grind
  | some v=>rw [hx] at e;exact ⟨some v,by grind [qY],e⟩
theorem yk {op:Op} {ys:List AV} {K:AV→Prop} (e:xj (Jw P G op A) ys K) : ∃ v,(∀ h,(e9 P G op).run A h=some (.val v h))∧K v:=by
 unfold xj at e;split at e
 ·rename_i q he;obtain ⟨⟨e1,⟨e2,e4⟩,e5⟩,e3⟩:=e;refine ⟨_,fun h=>?_,e3⟩;unfold Jw at he;split at he
  ·rename_i t x lo hi;split at he
   ·rename_i el hu;split at he
    ·rename_i s0 hsz;split at he
     ·rename_i xs hv;split at he
      ·rename_i l hh hl hhi;cases he
       simp only at e1 e2 e4 e5;subst e5;have hc:(Nat.ble l hh && Nat.ble hh xs.length)=true:=by simp_all
       obtain ⟨w1,o1,n1⟩:=xe (k:=fun lo=>qY G hi A fun hi=>qY G none A fun mx=>dK (s0+1) h ((co G x).run A) lo hi mx) hl;obtain ⟨w2,o2,n2⟩:=xe (k:=fun hi=>qY G none A fun mx=>dK (s0+1) h ((co G x).run A) w1 hi mx) hhi;simp only [e9,hu,hsz];rw [o1,o2];simp only [qY,dK,hv,fN,e1,n1,n2,uW,hc,Fe,bj]
      grind
     grind
    grind
   grind
  grind
 simp_all
theorem yw {op:Op} {K:AV→Prop} (e:xk (Jv P G op A h) K) : ∃ v,(e9 P G op).run A h=some (.val v h)∧K v:=by
 unfold xk at e;split at e
 ·rename_i q he;obtain ⟨⟨e1,e2,e4⟩,e3⟩:=e;refine ⟨_,?_,e3⟩;unfold Jv at he;split at he
  ·rename_i t x lo hi;split at he
   ·rename_i el hu;split at he
    ·rename_i s0 hsz;split at he
     ·rename_i id ep off len hv;split at he
      ·rename_i l hh sz op' ep1 xs hl hhi hg;split at he
       ·rename_i hb;cases he
        simp only at e1 e2 e4;subst e1;have ha : ∀ k,DT off k=off+k:=fun k=>by unfold DT;grind
        have hs:Uu hh l=hh - l:=by unfold Uu;grind
        rw [ha] at e4;have hb':(Nat.beq sz (s0+1) && Nat.beq ep ep)=true:=by simp_all
        have hc:(Nat.ble l hh && Nat.ble hh (room xs.length off none))=true:=by simp only [room,bX,bJ,decide_eq_true_eq];omega
        obtain ⟨w1,o1,n1⟩:=xe (k:=fun lo=>qY G hi A fun hi=>qY G none A fun mx=>dK (s0+1) h ((co G x).run A) lo hi mx) hl;obtain ⟨w2,o2,n2⟩:=xe (k:=fun hi=>qY G none A fun mx=>dK (s0+1) h ((co G x).run A) w1 hi mx) hhi;simp only [e9,hu,hsz];rw [o1,o2];simp only [qY,dK,hv,fN,qQ,hg,hb',n1,n2,pe,hc,bj,ha,hs]
       grind
      grind
     grind
    grind
   grind
  grind
 simp_all
theorem ye {op:Op} {x:AV} {K:AV→Prop} (e:xy (Jn P G op A h) x K) : ∃ v,(e9 P G op).run A h=some (.val v h)∧K v:=by
 unfold xy at e;split at e
 ·rename_i q he;split at e
  ·rename_i v hp;obtain ⟨⟨e1,e2⟩,e3⟩:=e;refine ⟨_,?_,e3⟩;unfold Jn at he;split at he;all_goals grind [e9,zK,yA,bj,Nat.beq_refl]
  simp_all
 simp_all
theorem yb {op:Op} {x:AV} {xs':List AV} {K:AHeap→Prop} (e:xw h (Ji P G op A h) x xs' K) : ∃ h',(e9 P G op).run A h=some (.val gZ h')∧K h':=by
 unfold xw at e;split at e
 ·rename_i q he;split at e
  ·rename_i y hp;obtain ⟨⟨e1,e2,e4⟩,e3⟩:=e;refine ⟨_,?_,e3⟩;unfold Ji at he;split at he
   ·rename_i t a b;split at he
    ·rename_i n h1;split at he
     ·rename_i id ep i off v hv hb;split at he
      ·rename_i sz op' ep1 xs hg;split at he
       ·rename_i hf;cases he
        simp_all [e9,rS,wP]
       grind
      grind
     grind
    grind
   grind
  simp_all
 simp_all
theorem Rm {es:List AEnt} {c:Nat} {k v:AV} {id:Nat} {r:Option (Option (Nat × AEnt))} {es':List AEnt} {c':Nat} (e:rk es c k v r=some (es',c')):xU h id es c k v r=some (h.put id (.map es' c')):=by
 unfold rk at e;grind [xU]
theorem x8 {op:Op} {es':List AEnt} {c':Nat} {K:AHeap→Prop} (e:xq op h (oS P G op A) es' c' K) : ∃ h',(e9 P G op).run A h=some (.val gZ h')∧K h':=by
 unfold xq at e;split at e
 ·rename_i l hi hl;split at e
  ·rename_i es c hg;refine ⟨_,?_,e.2⟩;have e1:=Rm (h:=h) (id:=l.id) e.1;have key : ∀ (t:TypeId) (m k x:Operand),oS P G (.mapUpdate t m k x) A=some l→(e9 P G (.mapUpdate t m k x)).run A h=some (.val gZ (h.put l.id (.map es' c'))):=by
    intro t m k x hl;simp only [oS] at hl;split at hl
    ·rename_i kt el hu;split at hl
     ·rename_i ag sz lv h1 h2 h3;split at hl
      ·rename_i id kk xx hm hk hx;split at hl
       ·rename_i hkr;cases hl
        simp only [e9,hu,h1,h2,h3,hm,hk,hx,qA,hkr,hg];rw [e1];rfl
       grind
      grind
     grind
    grind
   cases op <;> simp only [Uk,reduceCtorEq] at hi
   ·exact key _ _ _ _ hl
   simp_all
  simp_all
 simp_all
theorem BA {op:Op} {w:Bool} {K:AV→Prop} (e:C7 w (XH G w op A) K) : ∃ v,(e9 P G op).run A h=some (.val v h)∧K v:=by
 unfold C7 at e;split at e
 ·rename_i t v he;refine ⟨v,?_,e.2⟩;have e1:=e.1;subst e1;unfold XH at he;split at he
  ·rename_i c a b;split at he
   ·rename_i t' hc;cases t <;> simp only [] at he <;> split at he <;> first | (cases he;done) | skip
    all_goals
     rename_i u hu;simp only [wG,sG] at he;obtain ⟨rfl,rfl⟩:=he;simp only [e9,hc,Jt,hu,bj]
   grind
  grind
 simp_all
theorem IL {op:Op} {K:AV→AHeap→Prop} (e:DN h (Q6 P G op A h) K) : ∃ v h',(e9 P G op).run A h=some (.val v h')∧K v h':=by
 unfold DN at e;split at e
 ·rename_i a ha;split at e
  ·rename_i sz ep xs hg;split at e
   ·rename_i hsz;obtain ⟨⟨e1,e2,e3⟩,hK⟩:=e;refine ⟨_,_,?_,hK⟩;unfold Q6 at ha;split at ha
    ·rename_i args argTypes;split at ha
     ·rename_i s x hargs;split at ha
      ·rename_i el te hel hts;split at ha
       ·rename_i i hinfo;split at ha
        ·rename_i sz0 z hisz hz;split at ha
         ·rename_i hzz;unfold Xl at ha;split at ha
          ·rename_i id ep0 len x0 hs hx;split at ha
           ·rename_i y ys hsrc;split at ha
            ·rename_i hfit;cases ha
             simp only [] at e1 e2 e3 hsz hg;subst e1;have hbeq:Nat.beq ep0 ep0=true:=pC _;have hsz':Nat.beq (sz0+1) sz=true:=by simp_all
             have hble:Nat.ble (0+len+(y::ys).length) xs.length=false:=by grind [bX]
             simp_all [e9,g9,dx,gx,gM,fU]
            grind
           grind
          grind
         grind
        grind
       grind
      grind
     grind
    grind
   simp_all
  simp_all
 simp_all
theorem Aw {op:Op} {K:AV→AHeap→Prop} (e:xu h (KR P G op A h) K) : ∃ v h',(e9 P G op).run A h=some (.val v h')∧K v h':=by
 unfold xu at e;split at e
 ·rename_i a ha;obtain ⟨⟨hne,hfit⟩,e⟩:=e;unfold KR at ha;split at ha
  ·rename_i args argTypes;split at ha
   ·rename_i s x hargs;split at ha
    ·rename_i el te hel hts;split at ha
     ·rename_i i hinfo;split at ha
      ·rename_i sz0 z hisz hz;split at ha
       ·rename_i hzz;unfold Xm at ha;split at ha
        ·rename_i sv xv hs hx;split at ha
         ·rename_i ys hsrc;cases ha
          simp only [] at hne hfit e;obtain ⟨y,yr,rfl⟩ : ∃ y yr,ys=y::yr:=by
           cases ys with
           | nil=>simp_all
           | cons y yr=>simp_all
          split at e
          ·refine ⟨_,_,?_,e.2⟩;simp_all [e9,g9,dx,gx,gM,iU,fU]
          ·refine ⟨_,_,?_,e.2⟩;have e1:small (([]:List AV).length+(y::yr).length) i.bytes=true:=by simp_all
           have e2:dn (sz0+1) ([]:List AV)=true:=rfl;simp only [e9,hargs,g9,hel,hts,hinfo,hisz,hz,hzz,hs,hx,dx,gx,hsrc,gM,hfit,e1,e2,Bool.and_true,iU,pI,fU]
          ·rename_i z0 zs;obtain ⟨⟨e1,e2⟩,hK⟩:=e;refine ⟨_,_,?_,hK⟩;simp only [e9,hargs,g9,hel,hts,hinfo,hisz,hz,hzz,hs,hx,dx,gx,hsrc,gM,hfit,e1,e2,Bool.and_true,iU,fU]
          ·rename_i id ep0 len;split at e
           ·rename_i sz ep xs hg;split at e
            ·rename_i hsz;obtain ⟨⟨e1,e2,e3⟩,hK⟩:=e;refine ⟨_,_,?_,hK⟩;subst e1;have hbeq:Nat.beq ep0 ep0=true:=pC _;have hsz':Nat.beq (sz0+1) sz=true:=by simp_all
             have hble:Nat.ble (0+len+(y::yr).length) xs.length=false:=by grind [bX]
             simp_all [e9,g9,dx,gx,gM,fU]
            simp_all
           simp_all
          simp_all
         grind
        grind
       grind
      grind
     grind
    grind
   grind
  grind
 simp_all
theorem cj.nz {b:Option Nat} {Φ:St→Prop} {t:Nat} {xs:List AV} {A1:Fr} (ht:s.tmps.get t=some (.ls xs)) (p0:xs = []→∃ A0,iH s.tmps (some t) .nils=some A0∧cj P G b ops l ⟨A0,s.heap⟩ Φ)
  (p1:iH s.tmps (some t) (.ps xs false)=some A1) (h1:cj P G b ops l ⟨A1,s.heap⟩ Φ):cj P G b ops l s Φ:=by
 intro i N h0' pl0 M0 w0 a w Q hb hl' hs hQ;obtain ⟨pl,M,g1,g2,g3,g4,g5⟩:=hs.ex;obtain ⟨hlt,hv⟩:=g3.at_ t _ ht;have same:a.put (some t) (a.tmps.getD t undef)=a:=by
  obtain ⟨tm,df⟩:=a;simp only [Act.put];congr 1;apply Array.ext_getElem?;intro k;rw [Array.getElem?_setIfInBounds];by_cases e:t=k
  ·subst e;have:t<tm.size:=by have:=g3.size;simp_all
   simp_all
  grind
 generalize hc:a.tmps.getD t undef=c at hv same;cases hv with
 | lsn=>
  obtain ⟨A0,e0,h0⟩:=p0 rfl;obtain ⟨q1,q2⟩:=nq g3 (VRel.nils (pl:=pl) (M:=M)) (by rw [hs.n];exact hs.small) e0;rw [same] at q1;exact h0 i N h0' pl0 M0 w0 a w Q hb hl' ⟨⟨pl,M,g1,g2,q1,g4,g5⟩,by rw [← hs.n];omega,hs.small⟩ hQ
 | lsp h ht0=>
  obtain ⟨q1,q2⟩:=nq g3 h (by rw [hs.n];exact hs.small) p1;rw [same] at q1;exact h1 i N h0' pl0 M0 w0 a w Q hb hl' ⟨⟨pl,M,g1,g2,q1,g4,g5⟩,by rw [← hs.n];omega,hs.small⟩ hQ
theorem Rk {b:Option Nat} {Φ:St→Prop} {d:D} {K:D→St→Prop} (h:XO d s K) (hk : ∀ d s',s'.tmps.n=s.tmps.n→K d s'→cj P G b ops l s' Φ):cj P G b ops l s Φ:=by
 have key : ∀ {t:Nat} {v:AV} {A':Fr},iH s.tmps (some t) v=some A'→A'.n=s.tmps.n:=fun {t v A'} e=>by grind [iH,Fr.put]
 cases d
 case nz t a b=>grind [XO,W5,bp,cj.nz]
 all_goals exact hk _ _ rfl h
theorem gK (hG:iD G) (hc:cw P G call) {Φ:St→Prop} : ∀ (l:List Oper) (d:D) (s:St) (K:D→St→Prop),Wz P G call m ops l d s K→(∀ d s,s.tmps.n≤60000→K d s→Φ s)→cj P G (some m) ops l s Φ
 | [],d,s,K,h,hK=>cj.bounded fun hn=>cj.nil (hK d s hn h)
 | o::r,d,s,K,h,hK=>by
  refine cj.bounded fun hn=>?_
  simp only [Wz] at h;refine Rk h fun d s hn' h=>?_
  have hn:s.tmps.n≤60000:=by omega
  refine sJ hG hn h fun d s' _ hW h=>cj.weak hW ?_
  refine Rk h fun d s' _ h=>?_
  refine Rw h (fun hg d h=>?_) (fun hg d h=>?_)
  ·cases d <;> simp only [Xs] at h
   case go n d'=>
    split at h
    ·rename_i v h' hb;obtain ⟨A',e1,e2⟩:=bp h;refine cj.one (s':=⟨A',h'⟩) hc ?_ (gK hG hc r _ _ K e2 hK);grind [yV,bu,fin]
    simp_all
   case val v d'=>
    obtain ⟨A',e1,e2⟩:=bp h.2;exact cj.val hg h.1 e1 (gK hG hc r _ _ K e2 hK)
   case opv v h' d'=>
    obtain ⟨A',e1,e2⟩:=bp h.2;exact cj.val hg h.1 e1 (gK hG hc r _ _ K e2 hK)
   case elem x d'=>
    obtain ⟨⟨xs,i,e1,e2⟩,h2⟩:=wi (h:=s'.heap) h;obtain ⟨A',e3,e4⟩:=bp h2;exact I3 hg e1 (Le.elem e2) e3 (gK hG hc r _ _ K e4 hK)
   case chr c d'=>
    obtain ⟨e1,h2⟩:=ID (h:=s'.heap) h;obtain ⟨A',e3,e4⟩:=bp h2;exact cj.val hg e1 e3 (gK hG hc r _ _ K e4 hK)
   case efd v h1 d'=>
    obtain ⟨f,args,e1,e2,h2⟩:=jF h;obtain ⟨A',e3,e4⟩:=bp h2;exact cj.calls hg e1 e2 fun v1 h1 ⟨q1,q2⟩=>by
     subst q1;subst q2;exact ⟨A',e3,gK hG hc r _ _ K e4 hK⟩
   case look v d'=>
    obtain ⟨e1,h2⟩:=wX h;obtain ⟨A',e3,e4⟩:=bp h2;exact cj.val hg e1 e3 (gK hG hc r _ _ K e4 hK)
   case upd es c d'=>
    obtain ⟨h',e1,h2⟩:=x8 h;obtain ⟨A',e3,e4⟩:=bp h2;exact cj.val hg e1 e3 (gK hG hc r _ _ K e4 hK)
   case pk w d'=>
    obtain ⟨v,e1,h2⟩:=BA (P:=P) (h:=s'.heap) h;obtain ⟨A',e3,e4⟩:=bp h2;exact cj.val hg e1 e3 (gK hG hc r _ _ K e4 hK)
   case app d'=>
    obtain ⟨v,h',e1,h2⟩:=IL h;obtain ⟨A',e3,e4⟩:=bp h2;exact cj.val hg e1 e3 (gK hG hc r _ _ K e4 hK)
   case apl d'=>
    obtain ⟨v,h',e1,h2⟩:=Aw h;obtain ⟨A',e3,e4⟩:=bp h2;exact cj.val hg e1 e3 (gK hG hc r _ _ K e4 hK)
   case slc d'=>
    obtain ⟨v,e1,h2⟩:=yw h;obtain ⟨A',e3,e4⟩:=bp h2;exact cj.val hg e1 e3 (gK hG hc r _ _ K e4 hK)
   case slp ys d'=>
    obtain ⟨v,e1,h2⟩:=yk h;obtain ⟨A',e3,e4⟩:=bp h2;exact cj.val hg (e1 _) e3 (gK hG hc r _ _ K e4 hK)
   case rix d'=>
    obtain ⟨v,e1,h2⟩:=yf h;obtain ⟨A',e3,e4⟩:=bp h2;exact cj.val hg e1 e3 (gK hG hc r _ _ K e4 hK)
   case rld x d'=>
    obtain ⟨v,e1,h2⟩:=ye h;obtain ⟨A',e3,e4⟩:=bp h2;exact cj.val hg e1 e3 (gK hG hc r _ _ K e4 hK)
   case rst x xs d'=>
    obtain ⟨h',e1,h2⟩:=yb h;obtain ⟨A',e3,e4⟩:=bp h2;exact cj.val hg e1 e3 (gK hG hc r _ _ K e4 hK)
   case pure v d'=>
    obtain ⟨f,args,e1,e2,h2⟩:=jF h;obtain ⟨A',e3,e4⟩:=bp h2;exact cj.calls hg e1 (e2 _) fun v1 h1 ⟨q1,q2⟩=>by
     subst q1;subst q2;exact ⟨A',e3,gK hG hc r _ _ K e4 hK⟩
   case eff Y rr hp I d'=>
    obtain ⟨f,args,e1,e2,h2⟩:=jF h;exact cj.calls hg e1 e2 fun v1 h1 ⟨y,q0,q1,q2⟩=>by
     subst q1;subst q2;obtain ⟨A',e3,e4⟩:=bp (h2 y q0);exact ⟨A',e3,gK hG hc r _ _ K e4 hK⟩
  ·obtain ⟨A',e1,e2⟩:=bp h;exact cj.skip hg e1 (gK hG hc r _ _ K e2 hK)
theorem GC {F:Fr} {d:DOper} (hg:ed ⟨F.n,bF F d.look .nil⟩ d.r.g=some true):Ds call F h d=VR call F h d:=by
 simp only [Ds,hg];rfl
theorem DSpec.less {F:Fr} {look:List Tmp} {h1:AHeap} {r:Rec} {u:AV} (hl:Le u v) (hd:DSpec P G ops o look F h v h1 r):DSpec P G ops o look F h u h1 r:=⟨hd.le,hd.keep,hd.new,fun nk n0 g pl M a w K Q q1 q2 q3 q4 q5 q6 q7 q8 q9 q10 hK=>hd.exec nk n0 g pl M a w K Q q1 q2 q3 q4 q5 q6 q7 q8 q9 q10 fun cv w' pl' M' g' z1 z2 z3 z4 z5 z6 z7=>hK cv w' pl' M' g' z1 z2 (hl _ _ _ z3) z4 z5 z6 z7⟩
theorem I5 (hG:iD G) {F:Fr} {h1:AHeap} {u:AV} (hg:ed ⟨F.n,bF F (o.looksAt ops) .nil⟩ (ez ops o)=some true) (e:(e9 P G o.op).run ⟨F.n,bF F (o.looksAt ops) .nil⟩ AHeap.none=some (.val v h1))
  (ht:ia F 0 (o.looksAt ops)=true) (hl:Le u (ft 0 0 v h1).1) (hu:u.top=0):DSpec P G ops o (o.looksAt ops) F h u h ⟨⟨false, [],0,0⟩,⟨false, [],0,0⟩⟩:=by
 refine ⟨ah _,fun _ _ _ h=>h,fun id h1 h2=>by omega,?_⟩;intro nk n0 g pl M a w K Q hn0 hnk hbig hr hvis hU hG' hs hdf hF hK;have hf0:FrRel pl M ⟨F.n,bF F (o.looksAt ops) .nil⟩ a:=gF hs hdf hF;rw [fq hf0 hg];simp only [if_true];left;have hf:FrRel (cS pl 0) M ⟨F.n,bF F (o.looksAt ops) .nil⟩ a:=qp hs hdf ht hF;have hcut:cS pl 0=fun _=>none:=by
  funext id;cases hp:cS pl 0 id with
  | none=>rfl
  | some p=>exact absurd (aG.1 hp).1 (pD _)
 rw [hcut] at hf;have hG2:pq G (fun _=>none) M:=hG'.none hG;obtain ⟨dst,op,ty,pos,after,guard⟩:=o;obtain ⟨pl1,M1,cv,w1,nx,q1,q2,q3,q4,q5,q6⟩:=yD (P:=P) (G:=G) op _ M _ _ v _ a w dst ty pos after guard hG2 (qJ hr) hf e;obtain ⟨pl2,M2,k1,k2,k3,_⟩:=td 0 (v2:=(ft 0 0 v h1).1) (h2:=(ft 0 0 v h1).2) (qJ hr) q4 q3 q5 q6 rfl;have fin:K (a.put dst cv) w1:=by
  obtain ⟨z1,z2⟩:=u9 (m:=n0) hr k2 k3;exact hK cv w1 pl M2 g z1 z2 ((hl _ _ _ k1).none hu) (nX.refl _) (fun id h _=>h) (fun _ _=>rfl) (fun id o' hh=>absurd hh (qN (ids:= [])))
 unfold Oper.wp;rw [q1];rcases q2 with rfl | ⟨rfl,rfl⟩
 ·exact fin
 ·exact fin
theorem E1 {h h':AHeap} : ∀ {n:Nat},OY h h' n→∀ id,id<n→h'.get id=h.get id
 | 0,_,id,hid=>absurd hid (pD _)
 | n+1,hs,id,hid=>by
  rcases fh id n with q | q
  ·exact E1 hs.2 id q
  ·have:id=n:=by omega
   subst this;exact hs.1
theorem de {masks:List (Nat × Nat)} {k:Nat} {r:Rec} {rs:List Rec} {p:Prop} (h:AK masks k r rs p):kN (eA masks k) r rs k=true∧p:=by grind [AK]
theorem fE (hG:iD G) (hc:cw P G call) {Φ:Fr→AHeap→Prop} : ∀ (l:List Oper) (k:Nat) (d:D) (F:Fr) (h:AHeap) (rs:List Rec) (K:D→St→Prop),Wx P G call ops (dM ops.toList 0 []) l k d F h rs K→F.n≤60000→(∀ d F h,F.n≤60000→K d ⟨F,h⟩→Φ F h)→rL P G ops k l F h rs Φ
 | [],k,d,F,h,rs,K,hw,hF,hK=>by grind [Wx,rL.done]
 | o::r,k,d,F,h,rs,K,hw,hF,hK=>by
  simp only [Wx] at hw;refine Rw hw (fun hg d hw=>?_) (fun hg d hw=>?_)
  ·cases d <;> simp only [Xt] at hw
   case go n d'=>
    split at hw
    ·rename_i v h' rec hd;obtain ⟨e1,e2⟩:=de hw;obtain ⟨A',e3,e4⟩:=bp e2;refine rL.step (DSpec.of hc (r:=rec) ?_) e1 e3 (fE hG hc r (k+1) _ _ _ _ K e4 (by grind [eg]) hK);grind [GC,bu]
    simp_all
   case asl u d'=>
    split at hw
    ·rename_i v h' rec hd;obtain ⟨hl,hw⟩:=hw;obtain ⟨e1,e2⟩:=de hw;obtain ⟨A',e3,e4⟩:=bp e2;refine rL.step (DSpec.less hl (DSpec.of hc (r:=rec) ?_)) e1 e3 (fE hG hc r (k+1) _ _ _ _ K e4 (by grind [eg]) hK);grind [GC,bu]
    simp_all
   case slc d'=>
    split at hw
    ·rename_i hk;obtain ⟨v,e0,hw⟩:=yw hw;obtain ⟨e1,e2⟩:=de hw;obtain ⟨A',e3,e4⟩:=bp e2;refine rL.step (kV (d:=⟨bu P G ops o,o.looksAt ops,dc o.op,cO o.op,0⟩) (ids:=b7 F (dc o.op)) rfl (by simp_all) ?_ hg) e1 e3 (fE hG hc r (k+1) _ _ _ _ K e4 (by grind [eg]) hK);grind [bu,pd]
    simp_all
   case rix d'=>
    split at hw
    ·rename_i hk;obtain ⟨v,e0,hw⟩:=yf hw;obtain ⟨e1,e2⟩:=de hw;obtain ⟨A',e3,e4⟩:=bp e2;refine rL.step (kV (d:=⟨bu P G ops o,o.looksAt ops,dc o.op,cO o.op,0⟩) (ids:=b7 F (dc o.op)) rfl (by simp_all) ?_ hg) e1 e3 (fE hG hc r (k+1) _ _ _ _ K e4 (by grind [eg]) hK);grind [bu,pd]
    simp_all
   case rld x d'=>
    split at hw
    ·rename_i hk;obtain ⟨v,e0,hw⟩:=ye hw;obtain ⟨e1,e2⟩:=de hw;obtain ⟨A',e3,e4⟩:=bp e2;refine rL.step (kV (d:=⟨bu P G ops o,o.looksAt ops,dc o.op,cO o.op,0⟩) (ids:=b7 F (dc o.op)) rfl (by simp_all) ?_ hg) e1 e3 (fE hG hc r (k+1) _ _ _ _ K e4 (by grind [eg]) hK);grind [bu,pd]
    simp_all
   case slp ys d'=>
    split at hw
    ·rename_i hk;obtain ⟨v,e0,hw⟩:=yk hw;obtain ⟨e1,e2⟩:=de hw;obtain ⟨A',e3,e4⟩:=bp e2;refine rL.step (kV (d:=⟨bu P G ops o,o.looksAt ops,dc o.op,cO o.op,0⟩) (ids:=b7 F (dc o.op)) rfl (by simp_all) ?_ hg) e1 e3 (fE hG hc r (k+1) _ _ _ _ K e4 (by grind [eg]) hK);grind [bu,pd]
    simp_all
   case rst x xs d'=>
    split at hw
    ·rename_i hk;obtain ⟨k1,k2,hw⟩:=hw;obtain ⟨hw',e0,hw⟩:=yb hw;split at hw
     ·rename_i v h' rec hd;obtain ⟨e1,e2⟩:=de hw;obtain ⟨A',e3,e4⟩:=bp e2;refine rL.step (my (d:=⟨bu P G ops o,o.looksAt ops,dc o.op,cO o.op,0⟩) (ids:=b7 F (dc o.op)) rfl ?_ hg) e1 e3 (fE hG hc r (k+1) _ _ _ _ K e4 (by grind [eg]) hK);simp_all [bu,pW,m6]
     simp_all
    simp_all
   case upd es c d'=>
    split at hw
    ·rename_i hk;obtain ⟨k1,k2,hw⟩:=hw;obtain ⟨hw',e0,hw⟩:=x8 hw;split at hw
     ·rename_i v h' rec hd;obtain ⟨e1,e2⟩:=de hw;obtain ⟨A',e3,e4⟩:=bp e2;refine rL.step (my (d:=⟨bu P G ops o,o.looksAt ops,dc o.op,cO o.op,0⟩) (ids:=b7 F (dc o.op)) rfl ?_ hg) e1 e3 (fE hG hc r (k+1) _ _ _ _ K e4 (by grind [eg]) hK);simp_all [bu,pW,m6]
     simp_all
    simp_all
   case apx xs d'=>
    split at hw
    ·rename_i hk;obtain ⟨k1,k2,hw⟩:=hw;obtain ⟨v0,hw',e0,hw⟩:=Aw (Yk hw);split at hw
     ·rename_i v h' rec hd;obtain ⟨e1,e2⟩:=de hw;obtain ⟨A',e3,e4⟩:=bp e2;refine rL.step (my (d:=⟨bu P G ops o,o.looksAt ops,dc o.op,cO o.op,0⟩) (ids:=b7 F (dc o.op)) rfl ?_ hg) e1 e3 (fE hG hc r (k+1) _ _ _ _ K e4 (by grind [eg]) hK);grind [bu,pW,m6]
     simp_all
    simp_all
   case app d'=>
    split at hw
    ·rename_i hk;obtain ⟨k1,k2,hw⟩:=hw;obtain ⟨v0,hw',e0,hw⟩:=wB hw;split at hw
     ·rename_i v h' rec hd;obtain ⟨e1,e2⟩:=de hw;obtain ⟨A',e3,e4⟩:=bp e2;refine rL.step (my (d:=⟨bu P G ops o,o.looksAt ops,dc o.op,cO o.op,0⟩) (ids:=b7 F (dc o.op)) rfl ?_ hg) e1 e3 (fE hG hc r (k+1) _ _ _ _ K e4 (by grind [eg]) hK);grind [bu,pW,m6]
     simp_all
    simp_all
   case opv v0 hw' d'=>
    split at hw
    ·rename_i hk;obtain ⟨k1,k2,e0,hw⟩:=hw;split at hw
     ·rename_i v h' rec hd;obtain ⟨e1,e2⟩:=de hw;obtain ⟨A',e3,e4⟩:=bp e2;refine rL.step (my (d:=⟨bu P G ops o,o.looksAt ops,dc o.op,cO o.op,0⟩) (ids:=b7 F (dc o.op)) rfl ?_ hg) e1 e3 (fE hG hc r (k+1) _ _ _ _ K e4 (by grind [eg]) hK);grind [bu,pW,m6]
     simp_all
    simp_all
   case val v d'=>
    split at hw
    ·rename_i hk;obtain ⟨e0,hw⟩:=hw;obtain ⟨e1,e2⟩:=de hw;obtain ⟨A',e3,e4⟩:=bp e2;refine rL.step (kV (d:=⟨bu P G ops o,o.looksAt ops,dc o.op,cO o.op,0⟩) (ids:=b7 F (dc o.op)) rfl (by simp_all) ?_ hg) e1 e3 (fE hG hc r (k+1) _ _ _ _ K e4 (by grind [eg]) hK);grind [bu,pd]
    simp_all
   case elem x d'=>
    split at hw
    ·rename_i hk;obtain ⟨⟨xs,i,e0,ex⟩,hw⟩:=wi (h:=⟨1000000,bo h (b7 F (dc o.op)) .nil⟩) hw;obtain ⟨e1,e2⟩:=de hw;obtain ⟨A',e3,e4⟩:=bp e2;refine rL.step (DSpec.less (Le.elem ex) (kV (d:=⟨bu P G ops o,o.looksAt ops,dc o.op,cO o.op,0⟩) (ids:=b7 F (dc o.op)) rfl (by simp_all) ?_ hg)) e1 e3 (fE hG hc r (k+1) _ _ _ _ K e4 (by grind [eg]) hK);grind [bu,pd]
    simp_all
   case efx same v h' d'=>
    obtain ⟨f,args,e1,hw⟩:=jF hw;split at hw
    ·rename_i hb;simp only [bX,bJ,decide_eq_true_eq] at hb;obtain ⟨⟨k1,k3⟩,k4⟩:=hb;obtain ⟨k2,k5,e2,hw⟩:=hw;have hcl:=iM k2;cases same with
     | true=>
      obtain ⟨e3,hw⟩:=de hw;obtain ⟨F',e5,e6⟩:=bp hw;exact rL.step (DSpec.effS hg e1 k1 (fun id o' hh=>gJ h.n hcl id o' (AHeap.get_some.1 hh).1 hh) k3 (E1 k5) e2) e3 e5 (fE hG hc r (k+1) _ _ _ _ K e6 (by grind [eg]) hK)
     | false=>
      obtain ⟨e3,hw⟩:=de hw;obtain ⟨F',e5,e6⟩:=bp hw;exact rL.step (DSpec.eff hg e1 k1 (fun id o' hh=>gJ h.n hcl id o' (AHeap.get_some.1 hh).1 hh) k3 (o8 h.n (by simp_all)) e2) e3 e5 (fE hG hc r (k+1) _ _ _ _ K e6 (by grind [eg]) hK)
    simp_all
   case efd v h' d'=>
    obtain ⟨f,args,e1,hw⟩:=jF hw;split at hw
    ·rename_i hk;simp only [bX,bJ,decide_eq_true_eq] at hk;obtain ⟨⟨⟨k1,k2⟩,k3⟩,k4⟩:=hk;obtain ⟨e2,hw⟩:=hw;obtain ⟨e3,e4⟩:=de hw;obtain ⟨A',e5,e6⟩:=bp e4;exact rL.step (DSpec.eff hg e1 k1 (fun id o' hh=>gJ h.n k2 id o' (AHeap.get_some.1 hh).1 hh) k3 (o8 h.n k4) e2) e3 e5 (fE hG hc r (k+1) _ _ _ _ K e6 (by grind [eg]) hK)
    simp_all
   case look v d'=>
    split at hw
    ·rename_i hk;obtain ⟨e0,hw⟩:=wX hw;obtain ⟨e1,e2⟩:=de hw;obtain ⟨A',e3,e4⟩:=bp e2;refine rL.step (kV (d:=⟨bu P G ops o,o.looksAt ops,dc o.op,cO o.op,0⟩) (ids:=b7 F (dc o.op)) rfl (by simp_all) ?_ hg) e1 e3 (fE hG hc r (k+1) _ _ _ _ K e4 (by grind [eg]) hK);grind [bu,pd]
    simp_all
   case pk w d'=>
    split at hw
    ·rename_i hk;obtain ⟨v,e0,hw⟩:=BA (P:=P) (h:=⟨1000000,bo h (b7 F (dc o.op)) .nil⟩) hw;obtain ⟨e1,e2⟩:=de hw;obtain ⟨A',e3,e4⟩:=bp e2;refine rL.step (kV (d:=⟨bu P G ops o,o.looksAt ops,dc o.op,cO o.op,0⟩) (ids:=b7 F (dc o.op)) rfl (by simp_all) ?_ hg) e1 e3 (fE hG hc r (k+1) _ _ _ _ K e4 (by grind [eg]) hK);grind [bu,pd]
    simp_all
   case pure v d'=>
    obtain ⟨f,args,e1,hw⟩:=jF hw;split at hw
    ·rename_i hk;simp only [an,bJ,decide_eq_true_eq] at hk;obtain ⟨e2,hw⟩:=hw;obtain ⟨e3,e4⟩:=de hw;obtain ⟨A',e5,e6⟩:=bp e4;exact rL.step (DSpec.pure hG hg e1 hk.1 hk.2 e2) e3 e5 (fE hG hc r (k+1) _ _ _ _ K e6 (by grind [eg]) hK)
    simp_all
   case fsl k0 ts t ys d'=>
    obtain ⟨v0,h1,e1,hw⟩:=wB hw;split at hw
    ·rename_i ht;obtain ⟨hl,hw⟩:=hw;obtain ⟨e3,e4⟩:=de hw;obtain ⟨A',e5,e6⟩:=bp e4;exact rL.step (I5 hG hg e1 ht hl rfl) e3 e5 (fE hG hc r (k+1) _ _ _ _ K e6 (by grind [eg]) hK)
    simp_all
  ·obtain ⟨e1,e2⟩:=de hw;obtain ⟨A',e3,e4⟩:=bp e2;refine rL.step (v:=gZ) (h1:=h) (DSpec.of hc (r:=Ev.rd []) ?_) e1 e3 (fE hG hc r (k+1) _ _ _ _ K e4 (by grind [eg]) hK);grind [bu,Ds]
theorem rx {b:Option Nat} {ts:List Nat} {vs:List AV} {os:List AObj} (h1:o5 s.tmps ts=some vs) (h2:eJ s.heap s.heap.n 0=some os):bR G b s (RF s.tmps.n ts (vs,os)):=by
 obtain ⟨k1,k2⟩:=dL _ _ _ h2;exact bR.sub ⟨rfl,fun t v h=>zf h1 t v (tv h),by grind [RF,ay],fun id o hh=>by simpa using k2 id o (nw hh)⟩
theorem JN (hG:iD G) {b:Code} {X:Type} {n:Nat} {ts:List Nat} {S:X→List AV × List AObj} {I:X→Prop} {ms:X→Nat} {K:AExit→D→St→Prop} {Φ:AExit→St→Prop}
  (h3 : ∀ x,I x→∀ Φ':AExit→St→Prop,(∀ e d s,s.tmps.n≤60000→yd m n ts S I ms x K e d s→Φ' e s)→al P G (some m) b (RF n ts (S x)) Φ')
  (hK : ∀ e d s,s.tmps.n≤60000→K e d s→Φ e s) (x0:X) (h2:I x0):al P G (some m) (.loop b) (RF n ts (S x0)) Φ:=by
 refine al.loop (fun k s1=>∃ x,s1.tmps.n=n∧bR G (some m) s1 (RF n ts (S x))∧I x∧ms x=k) (ms x0) ⟨x0,rfl,bR.refl _,h2,rfl⟩ ?_
 rintro k s1 ⟨x,e2,hW1,hx,rfl⟩
 refine al.weak hW1 (h3 x hx _ fun e d s2 hn2 he=>?_);cases e with
 | normal=>
  simp only [yd] at he;refine sJ hG hn2 he fun d s3 e3 hW3 he=>?_
  split at he
  ·rename_i vs' os' hnn hv' ho';simp only [an,decide_eq_true_eq] at hnn;obtain ⟨y,y1,y2,y3⟩:=he;refine ⟨ms y,y2,y,by omega,hW3.trans ?_,y1,rfl⟩;grind [rx]
  simp_all
 | exit id=>exact hK _ d s2 hn2 he
 | ret=>exact hK _ d s2 hn2 he
theorem Uh (hm:P.follows .mixedOrders=true) (hG:iD G) (hc:cw P G call) : ∀ (c:Code) (d:D) (s:St) (K:AExit→D→St→Prop) (Φ:AExit→St→Prop),(WP P G call m c).run d s K→(∀ e d s,s.tmps.n≤60000→K e d s→Φ e s)→al P G (some m) c s Φ:=by
 intro c;induction c with
 | skip=>exact fun d s K Φ h hK=>al.bounded fun hn=>al.skip (hK _ d s hn h)
 | label l=>exact fun d s K Φ h hK=>al.bounded fun hn=>al.label (hK _ d s hn h)
 | exit id=>exact fun d s K Φ h hK=>al.bounded fun hn=>al.exit (hK _ d s hn h)
 | ret=>exact fun d s K Φ h hK=>al.bounded fun hn=>al.ret (hK _ d s hn h)
 | scope b ih=>exact fun d s K Φ h hK=>al.scope (ih d s K Φ h hK)
 | seq a b iha ihb=>
  intro d s K Φ h hK;have plain : ∀ d s,(WP P G call m a).run d s (UG (WP P G call m b) K)→al P G (some m) (.seq a b) s Φ:=fun d s h=>by
   refine al.seq (iha d s _ _ h fun e d s hn he=>?_);cases e with
   | normal=>exact ihb d s K Φ he hK
   | exit id=>exact hK _ d s hn he
   | ret=>exact hK _ d s hn he
  cases d
  case join X ts S I d1 d2=>
   obtain ⟨h1,h2⟩:=h;refine al.seq (iha d1 s _ _ h1 fun e d s' hn he=>?_);cases e with
   | normal=>
    simp only [Uj] at he;refine al.bounded fun hn=>?_
    refine sJ hG hn he fun d s3 e3 hW3 he=>al.weak hW3 ?_
    split at he
    ·rename_i vs' os' hnn hv' ho';simp only [an,decide_eq_true_eq] at hnn;obtain ⟨y,y1,y3⟩:=he;have hw:=rx (G:=G) (b:=some m) hv' ho';grind [al.weak]
    simp_all
   | exit id=>exact hK _ d s' hn he
   | ret=>exact hK _ d s' hn he
  case inn d=>exact plain d s h
  all_goals exact plain _ s h
 | block id b ih=>
  intro d s K Φ h hK;refine al.block (ih d s _ _ h fun e d s hn he=>?_);cases e with
  | normal=>exact hK _ d s hn he
  | ret=>exact hK _ d s hn he
  | exit k=>grind [WM,an,T7]
 | region id ops draw=>
  intro d s K Φ h hK;refine al.bounded fun hn=>?_
  cases draw with
  | false=>exact al.region (gK hG hc _ d s _ h fun d s' hn' he=>hK .normal d s' hn' he)
  | true=>
   refine sJ hG hn h fun d s' e1 hW h=>al.weak hW ?_
   grind [al.draw,fE]
 | cond x a b iha ihb=>
  intro d s K Φ h hK;refine al.bounded fun hn=>?_
  refine sJ hG hn h fun d s' _ hW h=>al.weak hW ?_
  cases hv:(co G x).run s'.tmps with
  | none=>rw [hv] at h;exact h.elim
  | some v=>
   rw [hv] at h;cases v <;> simp only [Yl] at h
   case bool t=>
    cases d <;> simp only [] at h
    case go n d'=>grind [al.cond]
    case tt d'=>grind [HV]
    case ff d'=>grind [HY]
    case br d1 d2=>exact al.cond hv (fun k=>iha _ s' K Φ (h.1 k) hK) (fun k=>ihb _ s' K Φ (h.2 k) hK)
 | loop b ih=>
  intro d s K Φ h hK;refine al.bounded fun hn=>?_
  refine sJ hG hn h fun d s' e1 hW h=>al.weak hW ?_
  have hn':s'.tmps.n≤60000:=by omega
  cases d <;> simp only [Uz] at h
  case loop X ts S I ms x0 db=>
   split at h
   ·rename_i vs os hv ho;obtain ⟨h1,h2,h3⟩:=h;refine al.weak (rx hv ho) ?_;rw [h1];exact JN hG (fun x hx Φ' hΦ=>ih (db x) _ _ _ (h3 x hx) hΦ) hK x0 h2
   simp_all
  case un n db=>
   refine al.loop (fun k s1=>∃ d1,(WP P G call m b).run d1 s1 (XR (WP P G call m b) K k)) n ⟨db,h⟩ ?_
   rintro k s1 ⟨d1,h1⟩
   refine ih d1 _ _ _ h1 fun e d2 s2 h2 hn2=>?_
   cases k <;> cases e <;> first | exact ⟨_,Nat.lt_succ_self _,_,hn2⟩ | exact hn2.elim | exact hK _ _ _ h2 hn2
  case loop2 X Y ts S S' I I' ms ms' x0 db db'=>
   split at h
   ·rename_i vs os hv ho;obtain ⟨h1,h2,h3,h4⟩:=h;refine al.weak (rx hv ho) ?_;rw [h1];refine JN (S:=Sum.elim S S') (I:=Sum.elim I I') (ms:=Sum.elim ms ms') hG (fun x hx Φ' hΦ=>?_) hK x0 h2;grind
   simp_all
 | _=>intro d s K Φ h hK;exact h.elim
theorem EX {hp : AHeap} {fn : Func} {Ψ : AV → AHeap → Prop} (pol : Nat) (hf : P.funcs[f]? = some fn) (hN : (fn.name == "runtime.NumGoroutine") = false) (hb : fn.body = some c) (hn : Nat.ble args.length fn.ntmps = true ∧ Nat.ble fn.ntmps 60000 = true)
  (h:al P G (some hp.n) c ⟨⟨fn.ntmps,gL fn.ntmps args 0 .nil⟩,hp⟩ fun e s=>(∀ id,e≠ .exit id)∧∃ s',bR G (some hp.n) s s'∧∃ v,eM (eR P fn.results.toList s'.tmps s'.heap)=some v∧Ψ (ft pol hp.n v s'.heap).1 (ft pol hp.n v s'.heap).2):aF P G f args hp Ψ:=by
 intro pl M w vs hg hr hv;simp only [bX,decide_eq_true_eq] at hn;left;simp only [beq_eq_false_iff_ne,ne_eq] at hN;refine ⟨by simp_all [callFunc],calls_of_wp hf hb ?_⟩;have hs0:SNow G fn.ntmps hp pl M w ⟨⟨fn.ntmps,gL fn.ntmps args 0 .nil⟩,hp⟩ { tmps:=vs++Array.replicate (fn.ntmps - vs.size) undef,defers:= [] } w:=⟨⟨pl,M,hg,hr,yY hv hn.1 hn.2,cP.refl _ _ _ _,ah _⟩,rfl,hn.2⟩
 have hbase:T9 (some hp.n) hp pl:=fun m hb=>by cases hb;exact ⟨rfl,fun id p hq=>hr.dom id p hq⟩
 refine h fn.ntmps hp pl M w _ w _ hbase hs0 fun e s a1 w1 h1 h2=>?_
 obtain ⟨hne,s',hW,v,hres,hΨ⟩:=h1;have h2:=hW _ _ _ _ _ _ _ hbase h2;obtain ⟨pl1,M1,g1,g2,g3,g4,g5⟩:=h2.ex;obtain ⟨cv,k1,k2⟩:=sZ g2 g3 hres;obtain ⟨pl2,M2,q1,q2,q3,q4⟩:=td pol hr g2 k2 g4 g5 (rfl:ft pol hp.n v s'.heap=((ft pol hp.n v s'.heap).1,(ft pol hp.n v s'.heap).2));have fin:a1.defers = []∧∃ u,(results fn a1.tmps).run P w1 = .ok u w1∧∃ cv v h',Ending.returned u = .returned cv∧Ψ v h'∧gP pl M hp w v h' cv w1:=⟨g3.defers,cv,k1,cv,_,_,rfl,hΨ,pl2,M2,q1,q2,q3,q4⟩
 cases e with
 | exit id=>simp_all
 | normal=>exact fin
 | ret=>exact fin
theorem Tx (hG:iD G) {res:List ResultVar} {Ψ:AV→AHeap→Prop} {e:AExit} {d:D} (hn:s.tmps.n≤60000) (h:Dg P m res Ψ e d s) :
  (∀ id,e≠ .exit id)∧∃ s',bR G (some m) s s'∧∃ v,eM (eR P res s'.tmps s'.heap)=some v∧Ψ v s'.heap:=by
 have key:pre m d s (fun _ s=>match eM (eR P res s.tmps s.heap) with | some u=>Ψ u s.heap | none=>False)→∃ s',bR G (some m) s s'∧∃ v,eM (eR P res s'.tmps s'.heap)=some v∧Ψ v s'.heap:=by
  intro h;refine sJ hG hn h fun d' s' _ hW h=>⟨s',hW,?_⟩
  grind
 cases e with
 | exit id=>exact h.elim
 | normal=>exact ⟨fun id h=>(by grind),key h⟩
 | ret=>exact ⟨fun id h=>(by grind),key h⟩
theorem aF.walk {hp : AHeap} {fn : Func} {Ψ : AV → AHeap → Prop} {W : Prop} (pol : Nat) (hm : P.follows .mixedOrders = true) (hG : iD G) (hc : cw P G call) (hf : P.funcs[f]? = some fn) (hN : (fn.name == "runtime.NumGoroutine") = false) (hb : fn.body = some c)
  (hn:Nat.ble args.length fn.ntmps=true∧Nat.ble fn.ntmps 60000=true) (d:D) (p:W)
  (e:W=(WP P G call hp.n c).run d ⟨⟨fn.ntmps,gL fn.ntmps args 0 .nil⟩,hp⟩ (Dg P hp.n fn.results.toList fun v h=>Ψ (ft pol hp.n v h).1 (ft pol hp.n v h).2)):aF P G f args hp Ψ:=
 EX pol hf hN hb hn (Uh hm hG hc c d _ _ _ (e ▸ p) fun _ _ _ hn h=>Tx hG hn h)
theorem aO.walk {fn : Func} {W : Prop} (hm : P.follows .mixedOrders = true) (hG : iD G) (hc : cw P G call) (ht : aq args = 0) (hv : v.top = 0) (hf : P.funcs[f]? = some fn) (hN : (fn.name == "runtime.NumGoroutine") = false) (hb : fn.body = some c)
  (hn:Nat.ble args.length fn.ntmps=true∧Nat.ble fn.ntmps 60000=true) (d:D) (p:W)
  (e:W=(WP P G call 0 c).run d ⟨⟨fn.ntmps,gL fn.ntmps args 0 .nil⟩,AHeap.none⟩ (Dg P 0 fn.results.toList fun u h=>Le v (ft 0 0 u h).1)):aO P G f args v:=
 ow hG ht hv (aF.less (aF.walk (Ψ:=fun v1 _=>Le v v1) (call:=call) 0 hm hG hc hf hN hb hn d p e) fun v1 h' e=>⟨v,e,rfl⟩)
end
end Go.Ev
namespace Go.Ev
open Go
abbrev By (x v:Bool):Prop:=x=v
theorem et {a b:Prop} (h:a) (k:b):a∧b:=⟨h,k⟩
theorem bT {b:Bool} (h:b=false):ax b=true:=by simp_all
theorem bN {b:Bool} (h:b=true):ax b=false:=by simp_all
theorem Ra {u v:AV} (h:u=v):Le u v:=by grind [Le.refl]
theorem Le.int {k:IntKind} {a b:Int} (h:a=b):Le (.int k a) (.int k b):=by grind [Le.refl]
theorem pY {k:IntKind} {a b:Int} (h:b=a):Le (.int k a) (.int k b):=by grind [Le.refl]
theorem Le.bool {a b:Bool} (h:a=b):Le (.bool a) (.bool b):=by grind [Le.refl]
theorem Le.str {a b:List UInt8} (h:a=b):Le (.str a) (.str b):=by grind [Le.refl]
theorem Le.lsn {xs:List AV} (h:xs = []):Le (.ls xs) .nils:=by grind [Le.nils]
theorem Le.lsp {xs ys:List AV} {t:Bool} (h:xs=ys) (h0:aq ys=0):Le (.ls xs) (.ps ys t):=by grind [Le.ps]
theorem y8 {sz b n:Nat} {z:AV} {h:AHeap} (hs:small n b=true):fU (oR sz b z h (some (.int .i64 (.ofNat n))) (some (.int .i64 (.ofNat n))))=some (.val (.slice h.n 0 0 n (some n)) (h.push (.row sz false 0 (List.replicate n z)))):=by grind [Nat.ble_eq_true_of_le,oR,fU]
theorem AZ {s id ep n sz:Nat} {op:Bool} {cap:Option Nat} {h:AHeap} {xs ys:List AV} (hg:h.get id=some (.row sz op ep xs)) (hs:Nat.beq s sz=true) (hy:ys.length=n) (hx:xs.length=n) (hf:dn sz ys=true) :
  fU (uU s h (some (.slice id ep 0 n cap)) (some (.ls ys)))=some (.val (.int .i64 (.ofNat n)) (h.put id (.row sz op ep ys))):=by
 have e1:ys.take n=ys:=BQ (by omega);have e2:bC xs 0 ys=ys:=by grind [bC]
 simp_all [uU,kj,kJ,KG,fU]
theorem O0 {α:Type} {f:α→AV} {l:List α} {z:AV} {i:Nat} (h:i=l.length):jk (l.map f++ [z]) i=some z:=by rw [oM,pw (by simp_all),cX,show i - l.length=0 by omega];rfl
theorem OJ {α:Type} {f g:α→AV} (e : ∀ x,f x=g x) {l:List α} {z:AV} {i:Nat} {w:α} (h:i=l.length):(l.map f++ [z]).set i (g w)=(l++ [w]).map f:=by simp_all
theorem U4 {u v:AV} (h:Le u v) (hu:u.cells = [u]) (hv:v.cells = [v]) : ∀ (j:Nat) (y:AV),u.cells[j]? = some y→∃ x:AV,v.cells[j]? = some x∧Le y x:=by grind
theorem b9 {xs ys:List AV} (h:xs=ys):Le (.ls xs) (.ls ys):=by grind [Le.refl]
theorem aN {us vs:List AV} (h:Les us vs) (hs:us.all cG=true):Le (.agg us) (.agg vs):=Le.agg h fun u hu=>nW.1 hs u hu
theorem VQ:Nat.mx 0 0=0:=rfl
theorem aW {α:Type} {f:α→AV} (h : ∀ x,(f x).top=0) : ∀ (l:List α),aq (l.map f)=0
 | []=>rfl
 | x::r=>by simp only [ee,aq,h x,aW h r,VQ]
theorem au {a b:Int} (h:aB a b=true):a<b:=by grind [vK]
theorem aL {a b:Int} (h:aB a b=false):b≤a:=by grind [vK]
theorem ny {a b:Int} (h:a<b):aB a b=true:=by grind [vK]
theorem lO {a b:Int} (h:b≤a):aB a b=false:=by grind [vK]
theorem rZ {a b:Int} : ab a b=decide (a=b):=by
 cases a with
 | ofNat a=>cases b with
  | ofNat b=>grind [ab,an]
  | negSucc b=>exact (decide_eq_false (fun h=>by grind)).symm
 | negSucc a=>cases b with
  | ofNat b=>exact (decide_eq_false (fun h=>by grind)).symm
  | negSucc b=>grind [ab,an]
theorem gn {a b:Int} (h:ab a b=true):a=b:=by grind [rZ]
theorem tP {a b:Int} (h:ab a b=false):a≠b:=by grind [rZ]
theorem xK {x:Int} (h1 : -(2 ^ 63)≤x) (h2:x<2 ^ 63):IntKind.i64.wrap x=x:=by grind [IntKind.wrap,IntKind.bits,IntKind.signed]
theorem Le.wr {x:Int} (h : -(2 ^ 63)≤x∧x<2 ^ 63):Le (.int .i64 x) (.int .i64 (IntKind.i64.wrap x)):=by grind [xK,Le.refl]
def gD {α:Type} [Inhabited α] (l:List α) (i:Nat):α:=l.getD i default
theorem aT {α:Type} [Inhabited α] {l:List α} {i:Nat} (enc:α→AV) (h:i<l.length):jk (l.map enc) i=some (enc (gD l i)):=by grind [oM,gD]
theorem yG {α:Type} [Inhabited α] {l:List α} {i:Nat} (h:i<l.length):jk l i=some (gD l i):=by grind [oM,gD]
def nb (b:UInt8):AV:= .int .u8 (.ofNat b.toNat)
theorem Ub (b:UInt8):(nb b).top=0:=rfl
theorem TD {s:List UInt8} {H:AHeap} (h:s.length≤2 ^ 40):bj H (kY (some (.str s)))=some (.val (.ps (s.map nb) false) H):=by
 have e1:Nat.ble s.length (2 ^ 40)=true:=sL h;simp only [kY,e1,bj];rfl
theorem UD {s:List UInt8} {n:Nat} {k:IntKind} {H:AHeap} (h2:n≤s.length):bj H (kT (some (.str s)) none (some (.int k (.ofNat n))))=some (.val (.str (s.take n)) H):=by grind [Nat.ble_eq_true_of_le,kT,iS,fp,bj]
theorem UC {s:List UInt8} {l:Nat} {k:IntKind} {H:AHeap} (h1:l≤s.length):bj H (kT (some (.str s)) (some (.int k (.ofNat l))) none)=some (.val (.str (s.drop l)) H):=by simp_all [sL,kT,iS,fp,bj]
theorem gH {α:Type} [Inhabited α] {l:List α} {i:Nat} (h:i<l.length):gD l i∈l:=by grind [gD]
theorem Ag {x:Int} (h:0≤x):Le (.int .i64 (Int.ofNat x.toNat)) (.int .i64 x):=by grind [Le.refl]
theorem Le.len {α:Type} {f:α→AV} {l:List α} : Le (.int .i64 (Int.ofNat l.length)) (.int .i64 (Int.ofNat (l.map f).length)):=by grind [Le.refl]
theorem bS:(∀ b:Bool,(b && true)=b)∧(∀ b:Bool,(true && b)=b)∧(∀ b:Bool,(b && false)=false)∧(∀ b:Bool,(false && b)=false)∧(∀ b:Bool,(b || true)=true)∧(∀ b:Bool,(true || b)=true)∧
  (∀ b:Bool,(b || false)=b)∧(∀ b:Bool,(false || b)=b)∧(!true)=false∧(!false)=true:=by grind
theorem aS {α:Type} {p:α→Bool} : List.all [] p=true∧∀ x r,List.all (x::r) p=(p x && List.all r p):=⟨rfl,fun _ _=>rfl⟩
section
variable {α A : Type} {l r t : List α} {i : Nat} {w : α} {enc : α → AV} {J : List α → A → Prop} {a : A}
theorem Th (h:l.drop i=w::t):i<l.length:=by
 have:=congrArg List.length h;grind
theorem fP (h:l.drop i=r) (hr:r = []):aB (Int.ofNat i) (Int.ofNat l.length)=false:=by
 subst hr;refine SE ?_;simp_all
theorem gX (h:l.drop i=r) (hr:r=w::t):aB (Int.ofNat i) (Int.ofNat l.length)=true:=by grind [VV,Th]
theorem fO (h:l.drop i=r) (hr:r=w::t):jk (l.map enc) i=some (enc w):=by
 subst hr;rw [JD,oM];have:(l.drop i)[0]? = some w:=by simp_all
 grind
theorem bM (h:l.drop i=r) (hr:r=w::t):l.drop (i+1)=t:=by
 subst hr;have:=congrArg (List.drop 1) h;grind [List.drop_drop]
theorem fk (hr:r=w::t):t.length<r.length:=by simp_all
theorem ic (hr:r = []) (h:J r a):J [] a:=hr ▸ h
theorem cW (hr:r=w::t) (h:J r a):J (w::t) a:=hr ▸ h
theorem iY (h:l.drop i=r) (hr:r=w::t):t.length+1≤l.length:=by
 subst hr;have:=congrArg List.length h;grind
theorem ar (h:l.drop i=r) (hr:r=w::t):w∈l:=by grind [List.mem_of_mem_drop]
end
section
def bO {V:Type} (f:V→AV):List (Int × V)→Nat→List AEnt
 | [],_=> []
 | (k,v)::r,i=>⟨.int .i64 k,f v,i⟩::bO f r (i+1)
def gg {V:Type} (k:Int):List (Int × V)→Option V
 | []=>none
 | (j,v)::r=>match ab k j with | true=>some v | false=>gg k r
def ko {V:Type} (k:Int) (v:V):List (Int × V)→List (Int × V)
 | []=> [(k,v)]
 | (j,u)::r=>match ab k j with | true=>(j,v)::r | false=>(j,u)::ko k v r
variable {V : Type} {f : V → AV}
theorem sm (k:Int) : ∀ (l:List (Int × V)) (i:Nat),bv false 1 [(0,1)] (.int .i64 k) (bO f l i) i=some (match gg k l with | none=>none | some v=>some (i+(l.takeWhile fun p=>!(ab k p.1)).length,⟨.int .i64 k,f v,i+(l.takeWhile fun p=>!(ab k p.1)).length⟩))
 | [],i=>rfl
 | (j,v)::r,i=>by
  simp only [bO,bv,qw,Il,kc,gg];cases h:ab k j with
  | true=>grind [gn,mL,List.takeWhile]
  | false=>
   simp only [mL,sm k r (i+1),List.takeWhile,h,A9];grind
theorem zW (z:Option AV) (k:Int) (l:List (Int × V)):eF z false (bv false 1 [(0,1)] (.int .i64 k) (bO f l 0) 0)=match gg k l with | none=>z | some v=>some (f v):=by
 rw [sm];cases gg k l with
 | none=>cases z <;> rfl
 | some v=>rfl
theorem Dm (l r:List (Int × V)) : ∀ (i:Nat),bO f (l++r) i=bO f l i++bO f r (i+l.length):=by
 induction l with
 | nil=>intro i;rfl
 | cons x l ih=>
  intro i;obtain ⟨j,v⟩:=x;simp only [xL,bO,ih,cN,A8,true_and,List.append_cancel_left_eq];grind
theorem uG {k:Int} {v:V} : ∀ {l:List (Int × V)},gg k l=none→ko k v l=l++ [(k,v)]
 | [],_=>rfl
 | (j,u)::r,h=>by
  simp only [gg] at h;cases q:ab k j with
  | true=>grind
  | false=>rw [q] at h;simp only [ko,q,xL,uG h]
theorem EO {k:Int} {v u:V} : ∀ {l:List (Int × V)},gg k l=some u→(ko k v l).length=l.length
 | (j,w)::r,h=>by
  simp only [gg] at h;cases q:ab k j with
  | true=>grind [ko]
  | false=>rw [q] at h;simp only [ko,q,cN,EO h]
theorem Ck {k:Int} {v u:V} : ∀ {l:List (Int × V)} (i:Nat),gg k l=some u→
  (bO f l i).set (l.takeWhile fun p=>!(ab k p.1)).length ⟨.int .i64 k,f v,i+(l.takeWhile fun p=>!(ab k p.1)).length⟩=bO f (ko k v l) i
 | (j,w)::r,i,h=>by
  simp only [gg] at h;cases q:ab k j with
  | true=>grind [gn,bO,ko,List.takeWhile]
  | false=>
   rw [q] at h;simp only [bO,ko,List.takeWhile,q,A9,cN,List.set_cons_succ,A8,true_and];rw [← Ck (i+1) h];congr 2;all_goals (first | rfl | omega)
theorem Bv (k:Int) (v:V) (l:List (Int × V)):rk (bO f l 0) l.length (.int .i64 k) (f v) (bv false 1 [(0,1)] (.int .i64 k) (bO f l 0) 0)=some (bO f (ko k v l) 0,(ko k v l).length):=by
 rw [sm];cases h:gg k l with
 | none=>grind [rk,uG,Dm,bO]
 | some u=>
  have:=Ck (f:=f) (v:=v) 0 h;grind [rk,mZ,jB,kc,bW,EO]
theorem aE (hf : ∀ v,(f v).top=0) : ∀ (l:List (Int × V)) (i:Nat),fZ (bO f l i)=0
 | [],_=>rfl
 | (j,v)::r,i=>by simp only [bO,fZ,AV.top,hf v,aE hf r,VQ]
end
theorem NP {sz ep n:Nat} {op:Bool} {xs:List AV} (h:aq xs=0):Nat.ble (AObj.row sz op ep xs).top n=true:=by simp_all [AObj.top]
theorem Us {c n:Nat} {es:List AEnt} (h:fZ es=0):Nat.ble (AObj.map es c).top n=true:=by simp_all [AObj.top]
theorem jR {α:Type} {f:α→AV} {l:List α} {i:Nat} {w:α} : (l.map f).set i (f w)=(l.set i w).map f:=by simp_all
theorem CP {α:Type} {f g:α→AV} (e : ∀ x,f x=g x) {l:List α} {i:Nat} {w:α} : (l.map f).set i (g w)=(l.set i w).map f:=by simp_all
theorem PI (n:Nat):(Int.ofNat n).fdiv (2 ^ min 1 IntKind.u64.bits)=Int.ofNat (n / 2):=by
 have e:(2:Int) ^ min 1 IntKind.u64.bits=2:=rfl;grind
theorem fw {α:Type} {f:α→AV} {sz:Nat} (h : ∀ x,(Nat.beq (f x).cells.length sz && eG (f x))=true) : ∀ (l:List α),dn sz (l.map f)=true
 | []=>rfl
 | x::r=>by rw [ee,dn,h,fw h r];rfl
theorem cC {α:Type} {f:α→AV} {l ws:List α} : l.map f++ws.map f=(l++ws).map f:=by simp
theorem Bf {α:Type} {f:α→AV} {l:List α} {n:Nat} : ((l.map f).drop 0).take n=(l.take n).map f:=by simp_all
theorem CG {α:Type} {f:α→AV} {l:List α} {n:Nat} (h:l.length=n):((l.map f).drop 0).take n=l.map f:=by grind [List.length_map]
theorem Ry {xs ys:List AV} {t:Bool} (h:ys=xs):Le (.ps ys false) (.ps xs t):=h ▸ Le.loose xs t
theorem UX {xs:List AV} {n:Nat} (h:xs.length=n):(xs.drop 0).take n=xs:=by grind
theorem xh {α:Type} {f g:α→AV} {l ws:List α} (e : ∀ x,f x=g x):l.map f++ws.map g=(l++ws).map f:=by simp_all
theorem SC {α:Type} {f g:α→AV} {ws:List α} (e : ∀ x,f x=g x):ws.map g=ws.map f:=by simp_all
theorem qL {α:Type} [Inhabited α] {l:List α} {i:Nat} (f:α→AV) {g:α→AV} (e : ∀ x,f x=g x) (h:i<l.length):jk (l.map f) i=some (g (gD l i)):=by grind [aT]
theorem zc {α:Type} {f:α→AV} {s:Nat} (h : ∀ x,Nat.beq (f x).cells.length s=true) : ∀ (l:List α),o4 s (l.map f)=true
 | []=>rfl
 | x::_=>h x
theorem Hl {α:Type} {f:α→AV} {l:List α} {h k:Nat} : ((l.map f).take h).drop k=((l.take h).drop k).map f:=by simp_all
theorem We {α:Type} {f:α→AV} {l:List α} {k:Nat} : ((l.map f).take (l.map f).length).drop k=(l.drop k).map f:=by rw [List.take_length,List.map_drop]
theorem iJ {a b:Bool} (ha:a=true) (hb:b=true):(a && b)=true:=by simp_all
theorem b6 {x:Int} {n:Nat} (h:x=Int.ofNat n∧n<2 ^ 62):Le (.int .i64 (Int.ofNat n)) (.int .i64 (IntKind.i64.wrap x)):=by grind [xK,Le.refl]
theorem HK {x:Int} {n:Nat} (h:x=Int.ofNat n∧n<2 ^ 62):Le (.int .u64 (Int.ofNat n)) (.int .u64 (IntKind.u64.wrap x)):=by grind [IntKind.wrap,IntKind.bits,Le.refl]
end Go.Ev
namespace Go.Ev
open Go
abbrev aP:=List UInt8
structure PWord where
 text:aP
 act:Int
 item:Int
 at_:Int
 deriving Inhabited
inductive TUnit where
 | mk (act item n kind:Int) (label:aP) (head words:List PWord) (kids:List TUnit)
 deriving Inhabited
namespace TUnit
def act:TUnit→Int | ⟨a,_,_,_,_,_,_,_⟩=>a
def item:TUnit→Int | ⟨_,a,_,_,_,_,_,_⟩=>a
def n:TUnit→Int | ⟨_,_,a,_,_,_,_,_⟩=>a
def kind:TUnit→Int | ⟨_,_,_,a,_,_,_,_⟩=>a
def label:TUnit→aP | ⟨_,_,_,_,a,_,_,_⟩=>a
def head:TUnit→List PWord | ⟨_,_,_,_,_,a,_,_⟩=>a
def words:TUnit→List PWord | ⟨_,_,_,_,_,_,a,_⟩=>a
def kids:TUnit→List TUnit | ⟨_,_,_,_,_,_,_,a⟩=>a
end TUnit
structure PStep where
 kind:Int
 label:aP
 deriving Inhabited
structure PStart where
 kind:Int
 day:Int
 event:aP
 deriving Inhabited
inductive PItem where
 | mk (kind:Int) (at_ to:List PStep) (where_ nth_:Int) (unit:TUnit) (old new:List aP) (label for_:aP) (start:PStart) (act item day:Int) (event:aP) (by_:List PItem)
 deriving Inhabited
namespace PItem
def kind:PItem→Int | ⟨a,_,_,_,_,_,_,_,_,_,_,_,_,_,_,_⟩=>a
def at_:PItem→List PStep | ⟨_,a,_,_,_,_,_,_,_,_,_,_,_,_,_,_⟩=>a
def to:PItem→List PStep | ⟨_,_,a,_,_,_,_,_,_,_,_,_,_,_,_,_⟩=>a
def where_:PItem→Int | ⟨_,_,_,a,_,_,_,_,_,_,_,_,_,_,_,_⟩=>a
def nth_:PItem→Int | ⟨_,_,_,_,a,_,_,_,_,_,_,_,_,_,_,_⟩=>a
def unit:PItem→TUnit | ⟨_,_,_,_,_,a,_,_,_,_,_,_,_,_,_,_⟩=>a
def old:PItem→List aP | ⟨_,_,_,_,_,_,a,_,_,_,_,_,_,_,_,_⟩=>a
def new:PItem→List aP | ⟨_,_,_,_,_,_,_,a,_,_,_,_,_,_,_,_⟩=>a
def label:PItem→aP | ⟨_,_,_,_,_,_,_,_,a,_,_,_,_,_,_,_⟩=>a
def for_:PItem→aP | ⟨_,_,_,_,_,_,_,_,_,a,_,_,_,_,_,_⟩=>a
def start:PItem→PStart | ⟨_,_,_,_,_,_,_,_,_,_,a,_,_,_,_,_⟩=>a
def act:PItem→Int | ⟨_,_,_,_,_,_,_,_,_,_,_,a,_,_,_,_⟩=>a
def item:PItem→Int | ⟨_,_,_,_,_,_,_,_,_,_,_,_,a,_,_,_⟩=>a
def day:PItem→Int | ⟨_,_,_,_,_,_,_,_,_,_,_,_,_,a,_,_⟩=>a
def event:PItem→aP | ⟨_,_,_,_,_,_,_,_,_,_,_,_,_,_,a,_⟩=>a
def by_:PItem→List PItem | ⟨_,_,_,_,_,_,_,_,_,_,_,_,_,_,_,a⟩=>a
end PItem
structure PAct where
 number:Int
 title:aP
 day:Int
 start:PStart
 items:List PItem
 deriving Inhabited
structure PGaz where
 number:Int
 day:Int
 prior:aP
 acts:List PAct
 deriving Inhabited
structure PDeed where
 act:Int
 item:Int
 day:Int
 it:PItem
 deriving Inhabited
structure PSpan where
 from_:Int
 to:Int
 deriving Inhabited
structure PFail where
 act:Int
 item:Int
 why:Int
 deriving Inhabited
noncomputable section
def mT (s:aP):AV:= .str s
def be (n:Int):AV:= .int .i64 n
def aQ (w:PWord):AV:= .agg [.str w.text, .int .i64 w.act, .int .i64 w.item, .int .i64 w.at_]
mutual
def AY:TUnit→List AV
 | ⟨a,i,n,k,l,h,w,ks⟩=> [.int .i64 a, .int .i64 i, .int .i64 n, .int .i64 k, .str l, .ls (h.map aQ), .ls (w.map aQ), .ls (Ge ks)]
def Ge:List TUnit→List AV
 | []=> []
 | u::r=> .agg (AY u)::Ge r
end
def aV (u:TUnit):AV:= .agg (AY u)
def az (s:PStep):AV:= .agg [.int .i64 s.kind, .str s.label]
def AU (s:PStart):List AV:= [.int .i64 s.kind, .int .i64 s.day, .str s.event]
def ap (s:PStart):AV:= .agg (AU s)
mutual
def IE:PItem→List AV
 | ⟨k,a,t,w,nn,u,o,n,lb,fo,st,ac,it,dy,ev,by_⟩=> [.int .i64 k, .ls (a.map az), .ls (t.map az), .int .i64 w, .int .i64 nn]++AY u++ [.ls (o.map mT), .ls (n.map mT), .str lb, .str fo]++AU st++ [.int .i64 ac, .int .i64 it, .int .i64 dy, .str ev, .ls (Gh by_)]
def Gh:List PItem→List AV
 | []=> []
 | u::r=> .agg (IE u)::Gh r
end
def ME (x:PItem):AV:= .agg (IE x)
def cU (u:TUnit):List AV:= [.int .i64 u.act, .int .i64 u.item, .int .i64 u.n, .int .i64 u.kind, .str u.label, .ls (u.head.map aQ), .ls (u.words.map aQ), .ls (u.kids.map aV)]
def eU (u:TUnit):AV:= .agg (cU u)
def cI (x:PItem):List AV:= [.int .i64 x.kind, .ls (x.at_.map az), .ls (x.to.map az), .int .i64 x.where_, .int .i64 x.nth_,
 .int .i64 x.unit.act, .int .i64 x.unit.item, .int .i64 x.unit.n, .int .i64 x.unit.kind, .str x.unit.label, .ls (x.unit.head.map aQ), .ls (x.unit.words.map aQ), .ls (x.unit.kids.map aV),
 .ls (x.old.map mT), .ls (x.new.map mT), .str x.label, .str x.for_, .int .i64 x.start.kind, .int .i64 x.start.day, .str x.start.event, .int .i64 x.act, .int .i64 x.item, .int .i64 x.day, .str x.event, .ls (x.by_.map ME)]
def eI (x:PItem):AV:= .agg (cI x)
def av (a:PAct):AV:= .agg [.int .i64 a.number, .str a.title, .int .i64 a.day, .int .i64 a.start.kind, .int .i64 a.start.day, .str a.start.event, .ls (a.items.map ME)]
def aM (g:PGaz):AV:= .agg [.int .i64 g.number, .int .i64 g.day, .str g.prior, .ls (g.acts.map av)]
def aY (d:PDeed):AV:= .agg (.int .i64 d.act:: .int .i64 d.item:: .int .i64 d.day::cI d.it)
def aK (s:PSpan):AV:= .agg [.int .i64 s.from_, .int .i64 s.to]
def iz (s:PFail):AV:= .agg [.int .i64 s.act, .int .i64 s.item, .int .i64 s.why]
end
theorem zH : ∀ (l:List TUnit),Ge l=l.map aV
 | []=>by rw [Ge];rfl
 | u::r=>by rw [Ge,zH r];rfl
theorem Gg : ∀ (l:List PItem),Gh l=l.map ME
 | []=>by rw [Gh];rfl
 | u::r=>by rw [Gh,Gg r];rfl
theorem aA (u:TUnit):aV u=eU u:=by
 obtain ⟨a,i,n,k,l,h,w,ks⟩:=u;rw [aV,AY,zH];rfl
theorem eV (x:PItem):ME x=eI x:=by
 obtain ⟨k,a,t,w,nn,⟨ua,ui,un,uk,ul,uh,uw,uks⟩,o,n,lb,fo,st,ac,it,dy,ev,by_⟩:=x;rw [ME,IE,AY,Gg,zH];rfl
theorem ig (w:PWord):(aQ w).top=0:=rfl
theorem Ir (w:aP):(mT w).top=0:=rfl
theorem VI (w:Int):(be w).top=0:=rfl
theorem Gf (w:PStep):(az w).top=0:=rfl
theorem Ua (w:PSpan):(aK w).top=0:=rfl
theorem f8 (w:PFail):(iz w).top=0:=rfl
theorem Yz (u:PItem):(eI u).top=0:=rfl
theorem gO (u:TUnit):(aV u).top=0:=by rw [aA];rfl
theorem Gi (u:PItem):(ME u).top=0:=by rw [eV];rfl
theorem It (w:PAct):(av w).top=0:=rfl
theorem Is (w:PGaz):(aM w).top=0:=rfl
theorem wg (w:PDeed):(aY w).top=0:=rfl
mutual
def o7:TUnit→Prop
 | ⟨_,_,_,_,_,h,w,kids⟩=>h.length<2 ^ 60∧w.length<2 ^ 60∧kids.length<2 ^ 60∧GX kids
def GX:List TUnit→Prop
 | []=>True
 | u::r=>o7 u∧GX r
end
theorem CK : ∀ {l:List TUnit},GX l↔∀ u,u∈l→o7 u
 | []=>by simp [GX]
 | v::r=>by simp [GX,CK (l:=r)]
mutual
def nQ:PItem→Prop
 | ⟨_,a,t,_,_,u,o,n,_,_,_,_,_,_,_,by_⟩=>a.length<2 ^ 60∧t.length<2 ^ 60∧o.length<2 ^ 60∧n.length<2 ^ 60∧by_.length<2 ^ 60∧o7 u∧GW by_
def GW:List PItem→Prop
 | []=>True
 | u::r=>nQ u∧GW r
end
theorem CV : ∀ {l:List PItem},GW l↔∀ u,u∈l→nQ u
 | []=>by simp [GW]
 | v::r=>by simp [GW,CV (l:=r)]
theorem lY {u:TUnit} : o7 u↔u.head.length<2 ^ 60∧u.words.length<2 ^ 60∧u.kids.length<2 ^ 60∧∀ k,k∈u.kids→o7 k:=by
 obtain ⟨a,i,n,k,l,h,w,ks⟩:=u;rw [o7,CK];exact Iff.rfl
theorem qf {x:PItem} : nQ x↔x.at_.length<2 ^ 60∧x.to.length<2 ^ 60∧x.old.length<2 ^ 60∧x.new.length<2 ^ 60∧x.by_.length<2 ^ 60∧o7 x.unit∧∀ k,k∈x.by_→nQ k:=by
 obtain ⟨k,a,t,w,nn,u,o,n,lb,fo,st,ac,it,dy,ev,by_⟩:=x;rw [nQ,CV];exact Iff.rfl
def QZ (a:PAct):Prop:=a.items.length<2 ^ 60∧∀ x,x∈a.items→nQ x
def Vr (g:PGaz):Prop:=g.acts.length<2 ^ 60∧∀ a,a∈g.acts→QZ a
def pb (gs:List PGaz):Prop:=gs.length<2 ^ 60∧∀ g,g∈gs→Vr g
theorem D8 {u k:TUnit} (h:k∈u.kids):SizeOf.sizeOf k<SizeOf.sizeOf u:=by
 obtain ⟨a,i,n,kk,l,hh,w,ks⟩:=u;have h:k∈ks:=h;have:=List.sizeOf_lt_of_mem h;grind
theorem HW {u k:PItem} (h:k∈u.by_):SizeOf.sizeOf k<SizeOf.sizeOf u:=by
 obtain ⟨kd,a,t,w,nn,uu,o,n,lb,fo,st,ac,it,dy,ev,by_⟩:=u;have h:k∈by_:=h;have:=List.sizeOf_lt_of_mem h;grind
theorem TUnit.ind {p:TUnit→Prop} (h : ∀ u,(∀ k,k∈u.kids→p k)→p u) (u:TUnit):p u:=h u fun k hk=>TUnit.ind h k
termination_by SizeOf.sizeOf u
decreasing_by exact D8 hk
theorem PItem.ind {p:PItem→Prop} (h : ∀ u,(∀ k,k∈u.by_→p k)→p u) (u:PItem):p u:=h u fun k hk=>PItem.ind h k
termination_by SizeOf.sizeOf u
decreasing_by exact HW hk
end Go.Ev
namespace Go.Ev
open Go
structure KeyOf (K:Type) (ag:Bool) (sz:Nat) (lv:List (Nat × Nat)) (kenc:K→AV) (keq:K→K→Bool):Prop where
 eq : ∀ a b,qw ag sz lv (kenc a) (kenc b)=some (keq a b)
 t : ∀ a b,keq a b=true→a=b
 refl : ∀ a,keq a a=true
 same : ∀ a,mZ (kenc a) (kenc a)=true
 top : ∀ a,(kenc a).top=0
section
variable {K V : Type} {ag : Bool} {sz : Nat} {lv : List (Nat × Nat)} {kenc : K → AV} {keq : K → K → Bool} {f : V → AV}
noncomputable def b8 (kenc:K→AV) (f:V→AV):List (K × V)→Nat→List AEnt
 | [],_=> []
 | (k,v)::r,i=>⟨kenc k,f v,i⟩::b8 kenc f r (i+1)
def nG (keq:K→K→Bool) (k:K):List (K × V)→Option V
 | []=>none
 | (j,v)::r=>match keq k j with | true=>some v | false=>nG keq k r
def fe (keq:K→K→Bool) (k:K) (v:V):List (K × V)→List (K × V)
 | []=> [(k,v)]
 | (j,u)::r=>match keq k j with | true=>(j,v)::r | false=>(j,u)::fe keq k v r
theorem sn (hk:KeyOf K ag sz lv kenc keq) (k:K) : ∀ (l:List (K × V)) (i:Nat),bv ag sz lv (kenc k) (b8 kenc f l i) i=some (match nG keq k l with | none=>none | some v=>some (i+(l.takeWhile fun p=>!(keq k p.1)).length,⟨kenc k,f v,i+(l.takeWhile fun p=>!(keq k p.1)).length⟩))
 | [],i=>rfl
 | (j,v)::r,i=>by
  simp only [b8,bv,hk.eq,nG];cases h:keq k j with
  | true=>grind [mL,List.takeWhile,cases KeyOf]
  | false=>
   simp only [mL,sn hk k r (i+1),List.takeWhile,h,A9];grind
theorem zJ (hk:KeyOf K ag sz lv kenc keq) (z:Option AV) (ok:Bool) (k:K) (l:List (K × V)):eF z ok (bv ag sz lv (kenc k) (b8 kenc f l 0) 0)=match nG keq k l with | none=>nh ok z false | some v=>nh ok (some (f v)) true:=by
 rw [sn hk];cases nG keq k l with
 | none=>rfl
 | some v=>rfl
theorem Dn (l r:List (K × V)) : ∀ (i:Nat),b8 kenc f (l++r) i=b8 kenc f l i++b8 kenc f r (i+l.length):=by
 induction l with
 | nil=>intro i;rfl
 | cons x l ih=>
  intro i;obtain ⟨j,v⟩:=x;simp only [xL,b8,ih,cN,A8,true_and,List.append_cancel_left_eq];grind
theorem Bn {k:K} {v:V} : ∀ {l:List (K × V)},nG keq k l=none→fe keq k v l=l++ [(k,v)]
 | [],_=>rfl
 | (j,u)::r,h=>by
  simp only [nG] at h;cases q:keq k j with
  | true=>grind
  | false=>rw [q] at h;simp only [fe,q,xL,Bn h]
theorem ER {k:K} {v u:V} : ∀ {l:List (K × V)},nG keq k l=some u→(fe keq k v l).length=l.length
 | (j,w)::r,h=>by
  simp only [nG] at h;cases q:keq k j with
  | true=>grind [fe]
  | false=>rw [q] at h;simp only [fe,q,cN,ER h]
theorem Cw (hk:KeyOf K ag sz lv kenc keq) {k:K} {v u:V} : ∀ {l:List (K × V)} (i:Nat),nG keq k l=some u→
  (b8 kenc f l i).set (l.takeWhile fun p=>!(keq k p.1)).length ⟨kenc k,f v,i+(l.takeWhile fun p=>!(keq k p.1)).length⟩=b8 kenc f (fe keq k v l) i
 | (j,w)::r,i,h=>by
  simp only [nG] at h;cases q:keq k j with
  | true=>grind [b8,fe,List.takeWhile,cases KeyOf]
  | false=>
   rw [q] at h;simp only [b8,fe,List.takeWhile,q,A9,cN,List.set_cons_succ,A8,true_and];rw [← Cw hk (i+1) h];congr 2;all_goals (first | rfl | omega)
theorem Ba (hk:KeyOf K ag sz lv kenc keq) (k:K) (v:V) (l:List (K × V)):rk (b8 kenc f l 0) l.length (kenc k) (f v) (bv ag sz lv (kenc k) (b8 kenc f l 0) 0)=some (b8 kenc f (fe keq k v l) 0,(fe keq k v l).length):=by
 rw [sn hk];grind [rk,Bn,Dn,b8,Cw,ER,cases KeyOf]
theorem cK (hk:KeyOf K ag sz lv kenc keq) (hf : ∀ v,(f v).top=0) : ∀ (l:List (K × V)) (i:Nat),fZ (b8 kenc f l i)=0
 | [],_=>rfl
 | (j,v)::r,i=>by simp only [b8,fZ,hk.top,hf v,cK hk hf r,VQ]
variable [Inhabited K] [Inhabited V] {l : List (K × V)} {seen : List Nat}
end
section
variable {V : Type} {f : V → AV} [Inhabited V] {l : List (Int × V)} {seen : List Nat}
end
noncomputable def lz (p:Int × Int):AV:= .agg [.int .i64 p.1, .int .i64 p.2]
def o9 (a b:Int × Int):Bool:=ab a.1 b.1 && ab a.2 b.2
theorem i7:KeyOf (Int × Int) true 2 [(0,1),(1,1)] lz o9 where
 eq a b:=by
  show wT [.int .i64 a.1, .int .i64 a.2] [.int .i64 b.1, .int .i64 b.2] [(0,1),(1,1)]=_
  simp only [wT,jk,Rf,Il,kc,o9];cases h1:ab a.1 b.1 <;> cases h2:ab a.2 b.2 <;> rfl
 t a b h:=by
  simp only [o9,bJ] at h;grind [gn]
 refl a:=by simp [o9,bW]
 same a:=by simp [lz,mZ,jc,jB,kc,bW]
 top a:=rfl
end Go.Ev
namespace Go.Ev
open Go
section
variable {P : Program} {G : eh} {pl : Pl} {M : dl} {h : AHeap} {w w' : World}
theorem Q4 {x:AV} {vs:Array Value} (hv:VRels pl M [x] vs) : ∃ a,vs = #[a]∧VRel pl M x a:=by
 obtain ⟨l⟩:=vs
 match l,hv with
 | [a],hv=>exact ⟨a,rfl,hv.at_ 0 x rfl⟩
 | [],hv=>grind [cases VRels]
 | _::_::_,hv=>grind [cases VRels]
theorem Ak {x y:AV} {vs:Array Value} (hv:VRels pl M [x,y] vs) : ∃ a b,vs = #[a,b]∧VRel pl M x a∧VRel pl M y b:=by
 obtain ⟨l⟩:=vs
 match l,hv with
 | [a,b],hv=>exact ⟨a,b,rfl,hv.at_ 0 x rfl,hv.at_ 1 y rfl⟩
 | [],hv=>grind [cases VRels]
 | [_],hv=>grind [cases VRels]
 | _::_::_::_,hv=>grind [cases VRels]
theorem yh {f:Fn} {a:Value} (hv:VRel pl M (.func f [] []) a):a = .func f #[] #[]:=by grind [cases VRel]
theorem qB:VRel pl M (.tuple []) (.tuple #[]):= .tuple rfl fun j y h=>by simp_all
end
end Go.Ev
