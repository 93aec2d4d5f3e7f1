/- An abstract machine for runs of the program, proved sound against the model: part 5. No conditions. -/
import Derived.Test.YtdhkhecalpkngaaGreatDoorMach4
import Derived.Sort.Grow
namespace Go.Ev
open Go
inductive D:Type 1
 |fin
 |abs
 |go (n:Nat) (d:D)
 |val (v:AV) (d:D)
 |opv (v:AV) (h:AHeap) (d:D)
 |elem (x:AV) (d:D)
 |chr (c:UInt8) (d:D)
 |app (d:D)
 |pk (w:Bool) (d:D)
 |efd (v:AV) (h:AHeap) (d:D)
 |efx (same:Bool) (v:AV) (h:AHeap) (d:D)
 |look (v:AV) (d:D)
 |upd (es:List AEnt) (c:Nat) (d:D)
 |nz (t:Nat) (a b:D)
 |slc (d:D)
 |slp (ys:List AV) (d:D)
 |apx (ys:List AV) (d:D)
 |apl (d:D)
 |pure (v:AV) (d:D)
 |asl (u:AV) (d:D)
 |rix (d:D)
 |rld (x:AV) (d:D)
 |rst (x:AV) (xs:List AV) (d:D)
 |eff (Y:Type) (r:Y->AV) (hp:Y->AHeap) (I:Y->Prop) (d:Y->D)
 |tt (d:D)
 |ff (d:D)
 |br (a b:D)
 |le (t:Nat) (u:AV) (d:D)
 |frz (k:Nat) (ts:List Nat) (d:D)
 |frl (k:Nat) (ts ls:List Nat) (d:D)
 |psh (o:AObj) (d:D)
 |un (n:Nat) (d:D)
 |inn (d:D)
 |fsl (k:Nat) (ts:List Nat) (t:Nat) (ys:List AV) (d:D)
 |ren (ids pl ts:List Nat) (d:D)
 |obj (i:Nat) (o:AObj) (d:D)
 |obw (i:Nat) (u:AV) (d:D)
 |fzo (i k:Nat) (ts:List Nat) (ys:List AV) (d:D)
 |fza (i j k:Nat) (ts:List Nat) (ys:List AV) (d:D)
 |cs (T:Type) (l:List T) (a:D) (b:T->List T->D)
 |bs (t:Bool) (a b:D)
 |join (X:Type) (ts:List Nat) (S:X->List AV×List AObj) (I:X->Prop) (d:D) (d':X->D)
 |loop (X:Type) (ts:List Nat) (S:X->List AV×List AObj) (I:X->Prop) (m:X->Nat) (x0:X) (d:X->D)
 |loop2 (X Y:Type) (ts:List Nat) (S:X->List AV×List AObj) (S':Y->List AV×List AObj) (I:X->Prop) (I':Y->Prop) (m:X->Nat) (m':Y->Nat) (x0:X ⊕ Y) (d:X->D) (d':Y->D)
noncomputable section
def nx(n:Nat)(d:D):D:=match n with|0=>d|m+1=>.go m d
inductive Gd where
 |yes|no|sym (b want:Bool)|bad
def Cy(A:Fr):Option (Option Tmp×Bool)->Gd
 |none=>.yes
 |some (some d,want)=>match A.get d with
  |some (.bool b)=>.sym b want
  |some (.tuple [])=>.no
  |_=>.bad
 |some (none,_)=>.no
def uR(want:Bool)(a b:Prop):Prop:=match want with|true=>a|false=>b
def WPg(g:Gd)(d:D)(y n:D->Prop):Prop:=
 match g with
 | .yes=>y d
 | .no=>n d
 | .bad=>False
 | .sym b want=>match d with
  | .tt d'=>b=true/\uR want (y d') (n d')
  | .ff d'=>b=false/\uR want (n d') (y d')
  | .br d1 d2=>(b=true->uR want (y d1) (n d1))/\(b=false->uR want (n d2) (y d2))
  |d=>match b with|true=>uR want (y d) (n d)|false=>uR want (n d) (y d)
def mC(A:Fr)(dst:Option Tmp)(v:AV)(K:Fr->Prop):Prop:=match je A dst v with|some A'=>K A'|none=>False
def vG(r:Option ARes)(K:AV->AHeap->Prop):Prop:=match r with|some (.val v h)=>K v h|_=>False
theorem yV{r:Option ARes}{K:AV->AHeap->Prop}(h:vG r K):∃v h1,r=some (.val v h1)/\K v h1:=by
 unfold vG at h;grind
def ma(r:Option ARes)(K:FuncId->List AV->Prop):Prop:=match r with|some (.call f args)=>K f args|_=>False
def ZM:Option AV->Option (List AV)
 |some (.ls xs)=>some xs
 |some (.ps xs _)=>some xs
 |_=>none
def Rf:Option AV->Option Nat
 |some v=>gj v
 |none=>none
def Iy(P:Program)(G:fy)(op:Op)(A:Fr):Option (List AV×Nat×Nat):=match op with
 | .indexAddr t x i=>match P.underlying t with
  | some (.slice e)=>match dZ P e with
   |some (s+1)=>match ZM ((cE G x).run A),Rf ((cE G i).run A)with
    |some xs,some k=>some (xs,k,s+1)
    |_,_=>none
   |_=>none
  |_=>none
 |_=>none
def ve(r:Option (List AV×Nat×Nat))(x:AV)(K:Prop):Prop:=match r with
 |some (xs,i,s)=>match Nat.beq x.cells.length s with|true=>jP xs i=some x/\K|false=>False
 |none=>False
def Yu(P:Program)(G:fy)(op:Op)(A:Fr):Option (List UInt8×Nat):=match op with
 | .index t x i=>match P.underlying t with
  |some .string=>match(cE G x).run A,Rf ((cE G i).run A)with
   |some (.str s),some k=>some (s,k)
   |_,_=>none
  |_=>none
 |_=>none
def Fa(r:Option (List UInt8×Nat))(c:UInt8)(K:Prop):Prop:=match r with
 |some (s,i)=>jP s i=some c/\K
 |none=>False
def pkR(G:fy)(w:Bool)(op:Op)(A:Fr):Option (Bool×AV):=match op with
 | .pick c a b=>match(cE G c).run A with
  |some (.bool t)=>match w with
   |true=>match(cE G a).run A with|some v=>some (t,v)|none=>none
   |false=>match(cE G b).run A with|some v=>some (t,v)|none=>none
  |_=>none
 |_=>none
def Eo(w:Bool)(r:Option (Bool×AV))(K:AV->Prop):Prop:=match r with
 |some (t,v)=>t=w/\K v
 |none=>False
structure Look where
 ag:Bool
 sz:Nat
 lv:List (Nat×Nat)
 z:Option AV
 ok:Bool
 id:Nat
 k:AV
 v:AV
def pF(P:Program)(G:fy)(op:Op)(A:Fr):Option Look:=match op with
 | .lookup t m k ok=>match P.underlying t with
  | some (.map kt e)=>match c8 P kt,dZ P kt,ej P 10 kt 0 with
   |some ag,some sz,some lv=>match(cE G m).run A,(cE G k).run A with
    |some (.map id),some k=>match Hd ag sz k with|true=>some ⟨ag,sz,lv,iS P e,ok,id,k,gF⟩|false=>none
    |_,_=>none
   |_,_,_=>none
  |_=>none
 | .mapUpdate t m k x| .insert t m k x=>match P.underlying t with
  | some (.map kt _)=>match c8 P kt,dZ P kt,ej P 10 kt 0 with
   |some ag,some sz,some lv=>match(cE G m).run A,(cE G k).run A,(cE G x).run A with
    |some (.map id),some k,some x=>match Hd ag sz k with|true=>some ⟨ag,sz,lv,none,false,id,k,x⟩|false=>none
    |_,_,_=>none
   |_,_,_=>none
  |_=>none
 |_=>none
def Rm:Op->Bool
 | .lookup ..=>true
 |_=>false
def WF:Op->Bool
 | .mapUpdate .. | .insert ..=>true
 |_=>false
def vX(op:Op)(h:AHeap)(r:Option Look)(v:AV)(K:Prop):Prop:=match Rm op,r with
 |true,some l=>match h.get l.id with
  |some (.map es _)=>eS l.z l.ok (bw l.ag l.sz l.lv l.k es 0)=some v/\K
  |_=>False
 |_,_=>False
def qt(es:List AEnt)(clock:Nat)(k v:AV):Option (Option (Nat×AEnt))->Option (List AEnt×Nat)
 |some (some (i,en))=>match kN k en.key with|true=>some (es.set i {en with val:=v},clock)|false=>none
 |some none=>some (es++[{key:=k,val:=v,born:=clock}],clock+1)
 |none=>none
def yo(op:Op)(h:AHeap)(r:Option Look)(es':List AEnt)(c':Nat)(K:AHeap->Prop):Prop:=match WF op,r with
 |true,some l=>match h.get l.id with
  |some (.map es c)=>qt es c l.k l.v (bw l.ag l.sz l.lv l.k es 0)=some (es',c')/\K (h.put l.id (.map es' c'))
  |_=>False
 |_,_=>False
structure App where
 id:Nat
 ep:Nat
 len:Nat
 new:List AV
 sz:Nat
 b:Nat
def aar(h:AHeap)(sz b:Nat):Option AV->Option AV->Option App
 |some (.slice id ep 0 len none),some x=>match lU h x with
  |some (y::ys)=>match eX sz (y::ys)with|true=>some ⟨id,ep,len,y::ys,sz,b⟩|false=>none
  |_=>none
 |_,_=>none
def Tq(P:Program)(G:fy)(op:Op)(A:Fr)(h:AHeap):Option App:=match op with
 | .call {callee:=.builtin .append,args,argTypes}=>match args.toList with
  | [s,x]=>match(argTypes[0]?).bind (fj P),(argTypes[1]?).bind P.underlying with
   | some e,some (.slice _)=>match P.info? e with
    | some i=>match i.size,iS P e with
     |sz+1,some z=>match Nat.beq z.cells.length (sz+1)with
      |true=>aar h (sz+1) i.bytes ((cE G s).run A) ((cE G x).run A)
      |false=>none
     |_,_=>none
    |none=>none
   |_,_=>none
  |_=>none
 |_=>none
def Fg(h:AHeap)(a:Option App)(K:AV->AHeap->Prop):Prop:=match a with
 | some a=>match h.get a.id with
  |some (.row sz true ep xs)=>match Nat.beq sz a.sz with
   |true=>(a.ep=ep/\a.len=xs.length/\small (a.len+a.new.length) a.b=true)/\K (.slice a.id (a.ep+1) 0 (a.len+a.new.length) none) (h.put a.id (.row sz true (ep+1) (xs++a.new)))
   |false=>False
  |_=>False
 |none=>False
structure Apl where
 s:AV
 ys:List AV
 sz:Nat
 b:Nat
def aas(h:AHeap)(sz b:Nat):Option AV->Option AV->Option Apl
 |some s,some x=>match lU h x with
  |some ys=>some ⟨s,ys,sz,b⟩
  |none=>none
 |_,_=>none
def Ng(P:Program)(G:fy)(op:Op)(A:Fr)(h:AHeap):Option Apl:=match op with
 | .call {callee:=.builtin .append,args,argTypes}=>match args.toList with
  | [s,x]=>match(argTypes[0]?).bind (fj P),(argTypes[1]?).bind P.underlying with
   | some e,some (.slice _)=>match P.info? e with
    | some i=>match i.size,iS P e with
     |sz+1,some z=>match Nat.beq z.cells.length (sz+1)with
      |true=>aas h (sz+1) i.bytes ((cE G s).run A) ((cE G x).run A)
      |false=>none
     |_,_=>none
    |none=>none
   |_,_=>none
  |_=>none
 |_=>none
def y8(h:AHeap)(a:Option Apl)(K:AV->AHeap->Prop):Prop:=match a with
 | some a=>(a.ys≠[]/\eX a.sz a.ys=true)/\match a.s with
  | .nils=>small a.ys.length a.b=true/\K (.slice h.n 0 0 a.ys.length none) (h.push (.row a.sz true 0 a.ys))
  | .ps [] true=>small a.ys.length a.b=true/\K (.slice h.n 0 0 a.ys.length none) (h.push (.row a.sz true 0 a.ys))
  | .ps (z::zs) true=>(small ((z::zs).length+a.ys.length) a.b=true/\eX a.sz (z::zs)=true)/\K (.slice h.n 0 0 (z::zs++a.ys).length none) (h.push (.row a.sz true 0 (z::zs++a.ys)))
  | .slice id ep 0 len none=>match h.get id with
   |some (.row sz true ep' xs)=>match Nat.beq sz a.sz with
    |true=>(ep=ep'/\len=xs.length/\small (len+a.ys.length) a.b=true)/\K (.slice id (ep+1) 0 (len+a.ys.length) none) (h.put id (.row sz true (ep+1) (xs++a.ys)))
    |false=>False
   |_=>False
  |_=>False
 |none=>False
def I0(h:AHeap)(a:Option Apl)(xs':List AV)(K:AV->AHeap->Prop):Prop:=match a with
 | some a=>(a.ys≠[]/\eX a.sz a.ys=true)/\match a.s with
  | .nils=>(a.ys=xs'/\small a.ys.length a.b=true)/\K (.slice h.n 0 0 a.ys.length none) (h.push (.row a.sz true 0 xs'))
  | .ps [] true=>(a.ys=xs'/\small a.ys.length a.b=true)/\K (.slice h.n 0 0 a.ys.length none) (h.push (.row a.sz true 0 xs'))
  | .ps (z::zs) true=>((z::zs++a.ys=xs'/\small ((z::zs).length+a.ys.length) a.b=true)/\eX a.sz (z::zs)=true)/\K (.slice h.n 0 0 xs'.length none) (h.push (.row a.sz true 0 xs'))
  | .slice id ep 0 len none=>match h.get id with
   |some (.row sz true ep' xs)=>match Nat.beq sz a.sz with
    |true=>((ep=ep'/\len=xs.length/\small (len+a.ys.length) a.b=true)/\xs++a.ys=xs')/\K (.slice id (ep+1) 0 (len+a.ys.length) none) (h.put id (.row sz true (ep+1) xs'))
    |false=>False
   |_=>False
  |_=>False
 |none=>False
theorem abx{h:AHeap}{a:Option Apl}{xs':List AV}{K:AV->AHeap->Prop}(e:I0 h a xs' K):y8 h a K:=by
 cases a with
 |none=>exact e.elim
 | some a=>
  obtain⟨s,ys,sz,b⟩:=a;obtain⟨h1,e⟩:=e;refine⟨h1,?_⟩;simp only[]at e ⊢;split at e
  ·grind
  ·grind
  ·simp_all
  ·split at e
   ·rename_i hg;try simp only[hg]
    split at e
    ·rename_i hb;try simp only[hb]
     grind
    omega
   omega
  omega
structure Rix where
 id:Nat
 ep:Nat
 ep':Nat
 off:Nat
 i:Nat
 len:Nat
def LL(P:Program)(G:fy)(op:Op)(A:Fr)(h:AHeap):Option Rix:=match op with
 | .indexAddr t x i=>match P.underlying t with
  | some (.slice e)=>match dZ P e with
   | some (s+1)=>match(cE G x).run A,Rf ((cE G i).run A)with
    |some (.slice id ep off len _),some k=>match h.get id with
     |some (.row sz _ ep' _)=>match Nat.beq sz (s+1)with|true=>some ⟨id,ep,ep',off,k,len⟩|false=>none
     |_=>none
    |some (.sl0 id ep len _),some k=>match h.get id with
     |some (.row sz _ ep' _)=>match Nat.beq sz (s+1)with|true=>some ⟨id,ep,ep',0,k,len⟩|false=>none
     |_=>none
    |_,_=>none
   |_=>none
  |_=>none
 |_=>none
def FA(off i:Nat):Nat:=match off with|0=>i|k+1=>(k+1)+i
def yD(r:Option Rix)(K:AV->Prop):Prop:=match r with
 |some q=>(q.ep=q.ep'/\q.i<q.len)/\K (.ptr q.id q.ep (FA q.off q.i) 0)
 |none=>False
structure Slc where
 id:Nat
 ep:Nat
 ep':Nat
 off:Nat
 lo:Nat
 hi:Nat
 n:Nat
def XV(h l:Nat):Nat:=match l with|0=>h|k+1=>h-(k+1)
def Ov(G:fy)(A:Fr)(d:Nat):Option Operand->Option Nat
 |none=>some d
 |some x=>Rf ((cE G x).run A)
def Ln(P:Program)(G:fy)(op:Op)(A:Fr)(h:AHeap):Option Slc:=match op with
 | .slice t x lo hi none=>match P.underlying t with
  | some (.slice e)=>match dZ P e with
   | some (s+1)=>match(cE G x).run A with
    |some (.slice id ep off len none)=>match Ov G A 0 lo,Ov G A len hi,h.get id with
     |some l,some hh,some (.row sz _ ep' xs)=>match Nat.beq sz (s+1)with|true=>some ⟨id,ep,ep',off,l,hh,xs.length⟩|false=>none
     |_,_,_=>none
    |_=>none
   |_=>none
  |_=>none
 |_=>none
def yA(r:Option Slc)(K:AV->Prop):Prop:=match r with
 |some q=>(q.ep=q.ep'/\q.lo<=q.hi/\FA q.off q.hi<=q.n)/\K (.slice q.id q.ep (FA q.off q.lo) (XV q.hi q.lo) none)
 |none=>False
structure Slp where
 xs:List AV
 sz:Nat
 lo:Nat
 hi:Nat
def Lm(P:Program)(G:fy)(op:Op)(A:Fr):Option Slp:=match op with
 | .slice t x lo hi none=>match P.underlying t with
  | some (.slice e)=>match dZ P e with
   | some (s+1)=>match(cE G x).run A with
    |some (.ls xs)=>match Ov G A 0 lo,Ov G A xs.length hi with
     |some l,some hh=>some ⟨xs,s+1,l,hh⟩
     |_,_=>none
    |_=>none
   |_=>none
  |_=>none
 |_=>none
def yu(r:Option Slp)(ys:List AV)(K:AV->Prop):Prop:=match r with
 |some q=>(pM q.sz q.xs=true/\(q.lo<=q.hi/\q.hi<=q.xs.length)/\(q.xs.take q.hi).drop q.lo=ys)/\K (.ls ys)
 |none=>False
structure Rld where
 ep:Nat
 ep':Nat
 xs:List AV
 i:Nat
 off:Nat
 ag:Bool
 n:Nat
def LI(P:Program)(G:fy)(op:Op)(A:Fr)(h:AHeap):Option Rld:=match op with
 | .load t a=>match c8 P t,dZ P t with
  | some ag,some n=>match(cE G a).run A with
   |some (.ptr id ep i off)=>match h.get id with
    |some (.row _ _ ep' xs)=>some ⟨ep,ep',xs,i,off,ag,n⟩
    |_=>none
   |_=>none
  |_,_=>none
 |_=>none
def yC(r:Option Rld)(x:AV)(K:AV->Prop):Prop:=match r with
 |some q=>match uS q.ag q.n x.cells q.off with
  |some v=>(q.ep=q.ep'/\jP q.xs q.i=some x)/\K v
  |none=>False
 |none=>False
structure Rst where
 id:Nat
 ep:Nat
 ep':Nat
 sz:Nat
 op:Bool
 xs:List AV
 i:Nat
 off:Nat
 v:AV
def LD(P:Program)(G:fy)(op:Op)(A:Fr)(h:AHeap):Option Rst:=match op with
 | .store t a x=>match dZ P t with
  | some n=>match(cE G a).run A,(cE G x).run A with
   | some (.ptr id ep i off),some v=>match h.get id with
    |some (.row sz op ep' xs)=>match Nat.beq v.cells.length n&&fh v with
     |true=>some ⟨id,ep,ep',sz,op,xs,i,off,v⟩
     |false=>none
    |_=>none
   |_,_=>none
  |none=>none
 |_=>none
def yB(h:AHeap)(r:Option Rst)(x:AV)(xs':List AV)(K:AHeap->Prop):Prop:=match r with
 |some q=>match uL x q.off q.v with
  |some y=>(q.ep=q.ep'/\jP q.xs q.i=some x/\q.xs.set q.i y=xs')/\K (h.put q.id (.row q.sz q.op q.ep' xs'))
  |none=>False
 |none=>False
def Nx{X:Type}(I:X->Prop)(m:X->Nat)(S:X->List AV×List AObj)(x:X)(p:List AV×List AObj):Prop:=∃y,I y/\m y<m x/\p=S y
def UU(n:Nat)(ts:List Nat)(p:List AV×List AObj):St:=⟨eE n (ts.zip p.1),aw p.2⟩
section
variable(P:Program)(G:fy)(call:cA)(m:Nat)
def Eg:List AV->Bool
 |[]=>true
 |x::r=>dW x&&Eg r
def nS(h:AHeap)(n:Nat):Nat->Prop
 |0=>True
 |k+1=>match h.get k with
  |some o=>Nat.ble o.top n=true/\nS h n k
  |none=>nS h n k
def Qd(h:AHeap)(ids pl:List Nat):List Nat->(List AObj->Prop)->Prop
 |[],K=>K []
 | i::r,K=>match h.get i with
  | some o=>match jq i pl with
   |true=>o.top=0/\Qd h ids pl r fun L=>K (o::L)
   |false=>match um ids o with
    |true=>Qd h ids pl r fun L=>K (kF (fun i=>kU i ids 0) o::L)
    |false=>False
  |none=>False
def pre:D->St->(D->St->Prop)->Prop
 | .le t u d,s,K=>match s.tmps.get t with
  |some v=>Le u v/\(match je s.tmps (some t) u with|some A'=>pre d ⟨A',s.heap⟩ K|none=>False)
  |none=>False
 | .frz k ts d,s,K=>match Nat.ble m k&&Nat.ble k s.heap.n with
  | true=>nS s.heap k k/\match frzL s.tmps s.heap k ts with
   |some L=>match eR s.heap k 0 with
    |some os=>pre d ⟨eE s.tmps.n L,aw os⟩ K
    |none=>False
   |none=>False
  |false=>False
 | .psh o d,s,K=>pre d ⟨s.tmps,s.heap.push o⟩ K
 | .frl k ts ls d,s,K=>match Nat.ble m k&&Nat.ble k s.heap.n with
  |true=>nS s.heap k k/\Hj s.tmps k ls/\match frzL s.tmps s.heap k ts,Dy s.tmps ls,eR s.heap k 0 with
   |some L,some K',some os=>pre d ⟨eE s.tmps.n (K'++L),aw os⟩ K
   |_,_,_=>False
  |false=>False
 | .fsl k ts t ys d,s,K=>match Nat.ble m k&&Nat.ble k s.heap.n with
  | true=>nS s.heap k k/\match frzL s.tmps s.heap k ts,s.tmps.get t with
   |some L,some (.slice id ep off len cap)=>match Nat.ble k id,s.heap.get id,eR s.heap k 0 with
    |true,some (.row _ _ ep' xs),some os=>(ep=ep'/\(xs.drop off).take len=ys/\az ys=0)/\pre d ⟨eE s.tmps.n ((t,.ps ys (oO cap (some len)))::L),aw os⟩ K
    |_,_,_=>False
   |_,_=>False
  |false=>False
 | .ren ids pl ts d,s,K=>match Ax ids&&BX ids m with
  |true=>match N3 s.tmps ids ts with
   |some L=>Qd s.heap ids pl ids fun os=>pre d ⟨eE s.tmps.n L,aw os⟩ K
   |none=>False
  |false=>False
 | .obj i o d,s,K=>match s.heap.get i with
  |some o'=>o'=o/\pre d ⟨s.tmps,s.heap.put i o⟩ K
  |none=>False
 | .obw i u d,s,K=>match s.heap.get i with
  |some (.row sz op ep [v])=>match Nat.beq u.cells.length v.cells.length&&fh u&&Eg u.cells with
   |true=>(∀(j:Nat)(y:AV),u.cells[j]?=some y->∃x:AV,v.cells[j]?=some x/\Le y x)/\pre d ⟨s.tmps,s.heap.put i (.row sz op ep [u])⟩ K
   |false=>False
  |_=>False
 | .fzo i k ts ys d,s,K=>match Nat.ble m k&&Nat.ble k s.heap.n&&Nat.blt i k with
  | true=>match s.heap.get i with
   |some (.row sz op ep' [.slice id ep off len cap])=>match Nat.ble k id,s.heap.get id,frzL s.tmps s.heap k ts,eR (s.heap.put i (.row sz op ep' [.ls ys])) k 0 with
    |true,some (.row _ _ ep2 xs),some L,some os=>nS (s.heap.put i .dead) k k/\(ep=ep2/\(xs.drop off).take len=ys/\az ys=0)/\pre d ⟨eE s.tmps.n L,aw os⟩ K
    |_,_,_,_=>False
   |_=>False
  |false=>False
 | .fza i j k ts ys d,s,K=>match Nat.ble m k&&Nat.ble k s.heap.n&&Nat.blt i k with
  | true=>match s.heap.get i with
   | some (.row sz op ep' [.agg cs])=>match jP cs j with
    |some (.slice id ep off len cap)=>match Nat.ble k id,s.heap.get id,frzL s.tmps s.heap k ts,eR (s.heap.put i (.row sz op ep' [.agg (cs.set j (.ls ys))])) k 0 with
     |true,some (.row _ _ ep2 xs),some L,some os=>nS (s.heap.put i (.row sz op ep' [.agg (cs.set j (.ls ys))])) k k/\(ep=ep2/\(xs.drop off).take len=ys/\az ys=0)/\pre d ⟨eE s.tmps.n L,aw os⟩ K
     |_,_,_,_=>False
    |some (.sl0 id ep len cap)=>match Nat.ble k id,s.heap.get id,frzL s.tmps s.heap k ts,eR (s.heap.put i (.row sz op ep' [.agg (cs.set j (.ls ys))])) k 0 with
     |true,some (.row _ _ ep2 xs),some L,some os=>nS (s.heap.put i (.row sz op ep' [.agg (cs.set j (.ls ys))])) k k/\(ep=ep2/\(xs.drop 0).take len=ys/\az ys=0)/\pre d ⟨eE s.tmps.n L,aw os⟩ K
     |_,_,_,_=>False
    |_=>False
   |_=>False
  |false=>False
 | .abs,_,_=>False
 | .cs _ l a b,s,K=>(l=[]->pre a s K)/\(∀w r,l=w::r->pre (b w r) s K)
 | .bs t a b,s,K=>(t=true->pre a s K)/\(t=false->pre b s K)
 |d,s,K=>K d s
def aaK(o:Oper)(d:D)(s:St)(K:D->St->Prop):Prop:=
 match d with
 | .go n d'=>match behind call s.heap ((fC P G o.op).run s.tmps s.heap)with
  |some (v,h')=>mC s.tmps o.dst v fun A=>K (nx n d') ⟨A,h'⟩
  |none=>False
 | .opv v h' d'=>(fC P G o.op).run s.tmps s.heap=some (.val v h')/\mC s.tmps o.dst v fun A=>K d' ⟨A,h'⟩
 | .val v d'=>(fC P G o.op).run s.tmps s.heap=some (.val v s.heap)/\mC s.tmps o.dst v fun A=>K d' ⟨A,s.heap⟩
 | .elem x d'=>ve (Iy P G o.op s.tmps) x (mC s.tmps o.dst (.pptr [x] 0 0) fun A=>K d' ⟨A,s.heap⟩)
 | .chr c d'=>Fa (Yu P G o.op s.tmps) c (mC s.tmps o.dst (.int .u8 (.ofNat c.toNat)) fun A=>K d' ⟨A,s.heap⟩)
 | .efd v h' d'=>ma ((fC P G o.op).run s.tmps s.heap) fun f args=>aN P G f args s.heap (fun v1 h1=>v1=v/\h1=h')/\mC s.tmps o.dst v fun A=>K d' ⟨A,h'⟩
 | .look v d'=>vX o.op s.heap (pF P G o.op s.tmps) v (mC s.tmps o.dst v fun A=>K d' ⟨A,s.heap⟩)
 | .upd es c d'=>yo o.op s.heap (pF P G o.op s.tmps) es c fun h'=>mC s.tmps o.dst gF fun A=>K d' ⟨A,h'⟩
 | .pk w d'=>Eo w (pkR G w o.op s.tmps) fun v=>mC s.tmps o.dst v fun A=>K d' ⟨A,s.heap⟩
 | .app d'=>Fg s.heap (Tq P G o.op s.tmps s.heap) fun v h'=>mC s.tmps o.dst v fun A=>K d' ⟨A,h'⟩
 | .pure v d'=>ma ((fC P G o.op).run s.tmps s.heap) fun f args=>bY P G f args v/\mC s.tmps o.dst v fun A=>K d' ⟨A,s.heap⟩
 | .rix d'=>yD (LL P G o.op s.tmps s.heap) fun v=>mC s.tmps o.dst v fun A=>K d' ⟨A,s.heap⟩
 | .apl d'=>y8 s.heap (Ng P G o.op s.tmps s.heap) fun v h'=>mC s.tmps o.dst v fun A=>K d' ⟨A,h'⟩
 | .slc d'=>yA (Ln P G o.op s.tmps s.heap) fun v=>mC s.tmps o.dst v fun A=>K d' ⟨A,s.heap⟩
 | .slp ys d'=>yu (Lm P G o.op s.tmps) ys fun v=>mC s.tmps o.dst v fun A=>K d' ⟨A,s.heap⟩
 | .rld x d'=>yC (LI P G o.op s.tmps s.heap) x fun v=>mC s.tmps o.dst v fun A=>K d' ⟨A,s.heap⟩
 | .rst x xs d'=>yB s.heap (LD P G o.op s.tmps s.heap) x xs fun h'=>mC s.tmps o.dst gF fun A=>K d' ⟨A,h'⟩
 | .eff _ r hp I d'=>ma ((fC P G o.op).run s.tmps s.heap) fun f args=>aN P G f args s.heap (fun v h'=>∃y,I y/\v=r y/\h'=hp y)/\∀y,I y->mC s.tmps o.dst (r y) fun A=>K (d' y) ⟨A,hp y⟩
 |_=>False
def ZC(s:St)(t:Nat)(K0 K1:St->Prop):Prop:=match s.tmps.get t with
 |some (.ls xs)=>(xs=[]->mC s.tmps (some t) .nils fun A=>K0 ⟨A,s.heap⟩)/\mC s.tmps (some t) (.ps xs false) fun A=>K1 ⟨A,s.heap⟩
 |_=>False
def WPn(d:D)(s:St)(K:D->St->Prop):Prop:=match d with
 | .nz t a b=>ZC s t (K a) (K b)
 |d=>K d s
def Y8(ops:Array Oper):List Oper->D->St->(D->St->Prop)->Prop
 |[],d,s,K=>K d s
 |o::r,d,s,K=>WPn d s fun d s=>pre m d s fun d s=>WPn d s fun d s=>WPg (Cy s.tmps (e9 ops o)) d
  (fun d=>aaK P G call o d s fun d s=>Y8 ops r d s K)
  (fun d=>mC s.tmps o.dst gF fun A=>Y8 ops r d ⟨A,s.heap⟩ K)
def Yr(F:Fr)(h:AHeap)(d:DOper):Ce:=
 match d.kind with
 |0=>qm F h d (cp F d.foot)
 |1=>qJ F h d (cp F d.foot)
 |_=>Nj call F h d
def Qj(h h':AHeap):Nat->Prop
 |0=>True
 |k+1=>h'.get k=h.get k/\Qj h h' k
def Xc(b:Bool)(h h':AHeap)(n:Nat):Prop:=match b with|true=>Qj h h' n|false=>True
def Bt(masks:List (Nat×Nat))(k:Nat)(r:Rec)(rs:List Rec)(p:Prop):Prop:=match l0 (fq masks k) r rs k with|true=>p|false=>False
def aaL(o:Oper)(dp:DOper)(d:D)(F:Fr)(h:AHeap)(K:D->AV->AHeap->Rec->Prop):Prop:=
 match d with
 | .go n d'=>match Yr call F h dp with
  |some (v,h',rec)=>K (nx n d') v h' rec
  |none=>False
 | .asl u d'=>match Yr call F h dp with
  |some (v,h',rec)=>Le u v/\K d' u h' rec
  |none=>False
 | .rix d'=>match Nat.beq (dK o.op) 0 with
  |true=>yD (LL P G o.op ⟨F.n,cZ F dp.look .nil⟩ ⟨1000000,bR h (cp F dp.foot) .nil⟩) fun v=>K d' v h (Ev.rd (cp F dp.foot))
  |false=>False
 | .slc d'=>match Nat.beq (dK o.op) 0 with
  |true=>yA (Ln P G o.op ⟨F.n,cZ F dp.look .nil⟩ ⟨1000000,bR h (cp F dp.foot) .nil⟩) fun v=>K d' v h (Ev.rd (cp F dp.foot))
  |false=>False
 | .rld x d'=>match Nat.beq (dK o.op) 0 with
  |true=>yC (LI P G o.op ⟨F.n,cZ F dp.look .nil⟩ ⟨1000000,bR h (cp F dp.foot) .nil⟩) x fun v=>K d' v h (Ev.rd (cp F dp.foot))
  |false=>False
 | .rst x xs d'=>match Nat.beq (dK o.op) 1 with
  |true=>jV F h.n dp.look=true/\pA h h.n (cp F dp.foot)=true/\yB ⟨h.n,bR h (cp F dp.foot) .nil⟩ (LD P G o.op ⟨F.n,cZ F dp.look .nil⟩ ⟨h.n,bR h (cp F dp.foot) .nil⟩) x xs fun hw=>
   match lG h ⟨h.n,bR h (cp F dp.foot) .nil⟩ (cp F dp.foot) (some (.val gF hw))with
   |some (v,h',rec)=>K d' v h' rec
   |none=>False
  |false=>False
 | .upd es c d'=>match Nat.beq (dK o.op) 1 with
  |true=>jV F h.n dp.look=true/\pA h h.n (cp F dp.foot)=true/\yo o.op ⟨h.n,bR h (cp F dp.foot) .nil⟩ (pF P G o.op ⟨F.n,cZ F dp.look .nil⟩) es c fun hw=>
   match lG h ⟨h.n,bR h (cp F dp.foot) .nil⟩ (cp F dp.foot) (some (.val gF hw))with
   |some (v,h',rec)=>K d' v h' rec
   |none=>False
  |false=>False
 | .apx xs d'=>match Nat.beq (dK o.op) 1 with
  |true=>jV F h.n dp.look=true/\pA h h.n (cp F dp.foot)=true/\I0 ⟨h.n,bR h (cp F dp.foot) .nil⟩ (Ng P G o.op ⟨F.n,cZ F dp.look .nil⟩ ⟨h.n,bR h (cp F dp.foot) .nil⟩) xs fun v hw=>
   match lG h ⟨h.n,bR h (cp F dp.foot) .nil⟩ (cp F dp.foot) (some (.val v hw))with
   |some (v,h',rec)=>K d' v h' rec
   |none=>False
  |false=>False
 | .app d'=>match Nat.beq (dK o.op) 1 with
  |true=>jV F h.n dp.look=true/\pA h h.n (cp F dp.foot)=true/\vG ((fC P G o.op).run ⟨F.n,cZ F dp.look .nil⟩ ⟨h.n,bR h (cp F dp.foot) .nil⟩) fun v hw=>
   match lG h ⟨h.n,bR h (cp F dp.foot) .nil⟩ (cp F dp.foot) (some (.val v hw))with
   |some (v,h',rec)=>K d' v h' rec
   |none=>False
  |false=>False
 | .opv v hw d'=>match Nat.beq (dK o.op) 1 with
  |true=>jV F h.n dp.look=true/\pA h h.n (cp F dp.foot)=true/\(fC P G o.op).run ⟨F.n,cZ F dp.look .nil⟩ ⟨h.n,bR h (cp F dp.foot) .nil⟩=some (.val v hw)/\
   match lG h ⟨h.n,bR h (cp F dp.foot) .nil⟩ (cp F dp.foot) (some (.val v hw))with
   |some (v,h',rec)=>K d' v h' rec
   |none=>False
  |false=>False
 | .val v d'=>match Nat.beq (dK o.op) 0 with
  |true=>(fC P G o.op).run ⟨F.n,cZ F dp.look .nil⟩ ⟨1000000,bR h (cp F dp.foot) .nil⟩=some (.val v ⟨1000000,bR h (cp F dp.foot) .nil⟩)/\K d' v h (Ev.rd (cp F dp.foot))
  |false=>False
 | .elem x d'=>match Nat.beq (dK o.op) 0 with
  |true=>ve (Iy P G o.op ⟨F.n,cZ F dp.look .nil⟩) x (K d' (.pptr [x] 0 0) h (Ev.rd (cp F dp.foot)))
  |false=>False
 | .efx same v h' d'=>ma ((fC P G o.op).run ⟨F.n,cZ F dp.look .nil⟩ h) fun f args=>match jV F h.n dp.look&&Nat.ble h.n h'.n&&(same||oK h h' h.n)with
  |true=>nS h h.n h.n/\Xc same h h' h.n/\aN P G f args h (fun v1 h1=>v1=v/\h1=h')/\K d' v h' ⟨⟨true,[],h.n,h.n⟩,⟨aj same,[],h.n,h'.n⟩⟩
  |false=>False
 | .efd v h' d'=>ma ((fC P G o.op).run ⟨F.n,cZ F dp.look .nil⟩ h) fun f args=>match jV F h.n dp.look&&fN h h.n h.n&&Nat.ble h.n h'.n&&oK h h' h.n with
  |true=>aN P G f args h (fun v1 h1=>v1=v/\h1=h')/\K d' v h' ⟨⟨true,[],h.n,h.n⟩,⟨true,[],h.n,h'.n⟩⟩
  |false=>False
 | .slp ys d'=>match Nat.beq (dK o.op) 0 with
  |true=>yu (Lm P G o.op ⟨F.n,cZ F dp.look .nil⟩) ys fun v=>K d' v h (Ev.rd (cp F dp.foot))
  |false=>False
 | .look v d'=>match Nat.beq (dK o.op) 0 with
  |true=>vX o.op ⟨1000000,bR h (cp F dp.foot) .nil⟩ (pF P G o.op ⟨F.n,cZ F dp.look .nil⟩) v (K d' v h (Ev.rd (cp F dp.foot)))
  |false=>False
 | .pk w d'=>match Nat.beq (dK o.op) 0 with
  |true=>Eo w (pkR G w o.op ⟨F.n,cZ F dp.look .nil⟩) fun v=>K d' v h (Ev.rd (cp F dp.foot))
  |false=>False
 | .pure v d'=>ma ((fC P G o.op).run ⟨F.n,cZ F dp.look .nil⟩ h) fun f args=>match Nat.beq (az args) 0&&Nat.beq v.top 0 with
  |true=>bY P G f args v/\K d' v h (Ev.rd [])
  |false=>False
 | .fsl _ _ _ ys d'=>vG ((fC P G o.op).run ⟨F.n,cZ F dp.look .nil⟩ AHeap.none) fun v h1=>match jV F 0 dp.look with
  |true=>Le (.ls ys) (gk 0 0 v h1).1/\K d' (.ls ys) h (Ev.rd [])
  |false=>False
 |_=>False
def Y9(ops:Array Oper)(masks:List (Nat×Nat)):List Oper->Nat->D->Fr->AHeap->List Rec->(D->St->Prop)->Prop
 |[],_,d,F,h,_,K=>match Nat.ble h.n 1000000 with|true=>K d ⟨F,h⟩|false=>False
 |o::r,k,d,F,h,rs,K=>WPg (Cy ⟨F.n,cZ F (o.looksAt ops) .nil⟩ (e9 ops o)) d
  (fun d=>aaL P G call o (dop P G ops o) d F h fun d v h' rec=>Bt masks k rec rs (mC F o.dst v fun F'=>Y9 ops masks r (k+1) d F' h' (rec::rs) K))
  (fun d=>Bt masks k (Ev.rd []) rs (mC F o.dst gF fun F'=>Y9 ops masks r (k+1) d F' h (Ev.rd []::rs) K))
def WPc(v:Option AV)(d:D)(a b:D->Prop):Prop:=
 match v with
 |some (.bool t)=>match d with
  | .go n d'=>match t with|true=>a (nx n d')|false=>b (nx n d')
  | .tt d'=>t=true/\a d'
  | .ff d'=>t=false/\b d'
  | .br d1 d2=>(t=true->a d1)/\(t=false->b d2)
  |_=>False
 |_=>False
structure WC where
 run:D->St->(AExit->D->St->Prop)->Prop
def Xb(b:WC)(K:AExit->D->St->Prop)(e:AExit)(d:D)(s:St):Prop:=match e with| .normal=>b.run d s K|e=>K e d s
def WE(n:Nat)(ts:List Nat){X:Type}(S:X->List AV×List AObj)(I:X->Prop)(K:AExit->D->St->Prop)(e:AExit)(d:D)(s:St):Prop:=match e with
 | .normal=>pre m d s fun _ s=>match Nat.beq s.tmps.n n,pO s.tmps ts,eR s.heap s.heap.n 0 with
  |true,some vs,some os=>∃y,I y/\(vs,os)=S y
  |_,_,_=>False
 |e=>K e d s
def aa6(a b:WC)(d:D)(s:St)(K:AExit->D->St->Prop):Prop:=match d with
 | .join _ ts S I d1 d2=>a.run d1 s (WE m s.tmps.n ts S I K)/\∀x,I x->b.run (d2 x) (UU s.tmps.n ts (S x)) K
 | .inn d=>a.run d s (Xb b K)
 |d=>a.run d s (Xb b K)
def Zr(id:Nat)(K:AExit->D->St->Prop)(e:AExit)(d:D)(s:St):Prop:=match e with
 | .exit k=>match Nat.beq k id with|true=>K .normal d s|false=>K (.exit k) d s
 |e=>K e d s
def zR(n:Nat)(ts:List Nat){X:Type}(S:X->List AV×List AObj)(I:X->Prop)(ms:X->Nat)(x:X)(K:AExit->D->St->Prop)(e:AExit)(d:D)(s:St):Prop:=match e with
 | .normal=>pre m d s fun _ s=>match Nat.beq s.tmps.n n,pO s.tmps ts,eR s.heap s.heap.n 0 with
  |true,some vs,some os=>Nx I ms S x (vs,os)
  |_,_,_=>False
 |e=>K e d s
def unK(b:WC)(K:AExit->D->St->Prop):Nat->AExit->D->St->Prop
 |0,e,d,s=>match e with| .normal=>False|e=>K e d s
 |n+1,e,d,s=>match e with| .normal=>b.run d s (unK b K n)|e=>K e d s
def WB(b:WC)(d:D)(s:St)(K:AExit->D->St->Prop):Prop:=match d with
 | .loop _ ts S I ms x0 db=>match pO s.tmps ts,eR s.heap s.heap.n 0 with
  |some vs,some os=>(vs,os)=S x0/\I x0/\∀x,I x->b.run (db x) (UU s.tmps.n ts (S x)) (zR m s.tmps.n ts S I ms x K)
  |_,_=>False
 | .loop2 _ _ ts S S' I I' ms ms' x0 db db'=>match pO s.tmps ts,eR s.heap s.heap.n 0 with
  |some vs,some os=>(vs,os)=Sum.elim S S' x0/\Sum.elim I I' x0/\
   (∀x,I x->b.run (db x) (UU s.tmps.n ts (S x)) (zR m s.tmps.n ts (Sum.elim S S') (Sum.elim I I') (Sum.elim ms ms') (.inl x) K))/\
   (∀x,I' x->b.run (db' x) (UU s.tmps.n ts (S' x)) (zR m s.tmps.n ts (Sum.elim S S') (Sum.elim I I') (Sum.elim ms ms') (.inr x) K))
  |_,_=>False
 | .un n d'=>b.run d' s (unK b K n)
 |_=>False
def WP:Code->WC
 | .skip | .label _=>⟨fun d s K=>K .normal d s⟩
 | .region _ ops draw=>match draw with
  |false=>⟨fun d s K=>Y8 P G call m ops ops.toList d s (K .normal)⟩
  |true=>⟨fun d s K=>pre m d s fun d s=>match E8 P G ops with
   |true=>Y9 P G call ops (eC ops.toList 0 []) ops.toList 0 d s.tmps s.heap [] (K .normal)
   |false=>False⟩
 | .seq a b=>⟨fun d s K=>aa6 m (WP a) (WP b) d s K⟩
 | .cond c a b=>⟨fun d s K=>pre m d s fun d s=>WPc ((cE G c).run s.tmps) d (fun d=>(WP a).run d s K) (fun d=>(WP b).run d s K)⟩
 | .block id b=>⟨fun d s K=>(WP b).run d s (Zr id K)⟩
 | .loop b=>⟨fun d s K=>pre m d s fun d s=>WB m (WP b) d s K⟩
 | .exit id=>⟨fun d s K=>K (.exit id) d s⟩
 | .scope b=>⟨fun d s K=>(WP b).run d s K⟩
 | .ret=>⟨fun d s K=>K .ret d s⟩
 |_=>⟨fun _ _ _=>False⟩
end
def E9(P:Program)(m:Nat)(res:List ResultVar)(Ψ:AV->AHeap->Prop)(e:AExit)(d:D)(s:St):Prop:=match e with
 | .exit _=>False
 |_=>pre m d s fun _ s=>match fp (fD P res s.tmps s.heap)with
  |some u=>Ψ u s.heap
  |none=>False
end
theorem Nx.mk{X:Type}{I:X->Prop}{m:X->Nat}{S:X->List AV×List AObj}{x:X}(y:X)(h1:I y)(h2:m y<m x):Nx I m S x (S y):=⟨y,h1,h2,rfl⟩
section
variable{P:Program}{G:fy}{call:cA}{m:Nat}{ops:Array Oper}{l:List Oper}{o:Oper}{s s':St}{h h':AHeap}{v:AV}{A A' F:Fr}{f:FuncId}{args:List AV}{c:Code}{n t:Nat}
theorem R4{g:Option (Option Tmp×Bool)}(h:Cy A g=.yes):fK A g=some true:=by
 unfold Cy at h;split at h
 ·rfl
 all_goals grind
theorem Vm{g:Option (Option Tmp×Bool)}(h:Cy A g=.no):fK A g=some false:=by
 unfold Cy at h;split at h
 ·grind
 ·grind[fK]
 ·simp[fK]
theorem R5{b want:Bool}{g:Option (Option Tmp×Bool)}(h:Cy A g=.sym b want):fK A g=some (b==want):=by
 unfold Cy at h;split at h
 ·grind
 ·split at h
  ·rename_i d w b' q;cases h
   simp only[fK,q];cases b<;>cases want<;>rfl
  all_goals simp_all
 grind
theorem G1{want:Bool}{a b:Prop}{Q:Prop}(h:uR want a b)(ha:want=true->a->Q)(hb:want=false->b->Q):Q:=by
 cases want
 ·exact hb rfl h
 ·exact ha rfl h
theorem TE{g:Option (Option Tmp×Bool)}{d:D}{y n:D->Prop}{Q:Prop}(h:WPg (Cy A g) d y n)(hy:fK A g=some true->∀d,y d->Q)(hn:fK A g=some false->∀d,n d->Q):Q:=by
 cases hg:Cy A g with
 |yes=>rw[hg]at h;exact hy (R4 hg) d h
 |no=>rw[hg]at h;exact hn (Vm hg) d h
 |bad=>rw[hg]at h;exact h.elim
 | sym b want=>
  rw[hg]at h;have e:=R5 hg;have t1:b=true->∀d,uR want (y d) (n d)->Q:=by
   intro hb d hp;subst hb;refine G1 hp (fun hw k=>hy (by simp_all) d k) (fun hw k=>hn (by simp_all) d k)
  have t2:b=false->∀d,uR want (n d) (y d)->Q:=by
   intro hb d hp;subst hb;refine G1 hp (fun hw k=>hn (by simp_all) d k) (fun hw k=>hy (by simp_all) d k)
  cases d<;>simp only[WPg]at h
  case tt d'=>grind
  case ff d'=>grind
  case br d1 d2=>
   cases hb:b with
   |true=>grind
   |false=>grind
  all_goals
   cases hb:b with
   |true=>rw[hb]at h;exact t1 hb _ h
   |false=>rw[hb]at h;exact t2 hb _ h
theorem bT{dst:Option Tmp}{K:Fr->Prop}(h:mC A dst v K):∃A',je A dst v=some A'/\K A':=by grind[mC]
theorem ky{r:Option ARes}{K:FuncId->List AV->Prop}(h:ma r K):∃f args,r=some (.call f args)/\K f args:=by
 unfold ma at h;grind
theorem jo{n:Nat}:∀{k:Nat},nS h n k->fN h n k=true
 |0,_=>rfl
 |k+1,hc=>by
  simp only[nS]at hc;simp only[fN];cases hg:h.get k with
  |none=>rw[hg]at hc;exact jo hc
  |some o=>rw[hg]at hc;simp only[hc.1];exact jo hc.2
theorem Ui{ids pl:List Nat}{is:List Nat}{K:List AObj->Prop}(e:Qd h ids pl is K):∃os,K os/\os.length=is.length/\∀(j:Nat)(o':AObj),os[j]?=some o'->∃o,h.get (gy is j)=some o/\kF (gy ids) o'=o/\o'.top<=ids.length:=by
 induction is generalizing K with
 |nil=>exact⟨[],e,rfl,fun j o' h=>by simp_all⟩
 | cons x r ih=>
  simp only[Qd]at e;split at e
  ·rename_i o ho;split at e
   ·obtain⟨h0,e⟩:=e;obtain⟨os,k1,k2,k3⟩:=ih e;refine⟨o::os,k1,by simp_all,fun j o' hj=>?_⟩;cases j with
    |zero=>simp at hj;subst hj;exact⟨o,ho,Js _ o h0,by omega⟩
    |succ j=>exact k3 j o' (by simp_all)
   ·split at e
    ·rename_i hw;obtain⟨os,k1,k2,k3⟩:=ih e;refine⟨_::os,k1,by simp_all,fun j o' hj=>?_⟩;cases j with
     |zero=>simp at hj;subst hj;exact⟨o,ho,N2 o hw⟩
     |succ j=>exact k3 j o' (by simp_all)
    simp_all
  simp_all
theorem CT:∀{l:List AV},Eg l=true->∀y,y∈l->dW y=true
 |x::r,h,y,hy=>by
  simp only[Eg,bZ]at h;rcases dP.1 hy with rfl|hy
  ·simp_all
  ·exact CT h.2 y hy
theorem JQ{α:Type}(d:Nat):∀(t:Tr α)(n:Nat)(x:α)(m:Nat)(y:α),n+1<2^d->m≠n->t.get m=some y->(Tr.set d t n x).get m=some y:=by
 induction d with
 |zero=>omega
 | succ d ih=>
  intro t n x m y hn hne h;have hn2:∀k,n=k+1->k/2+1<2^d:=by omega
  cases t with
  |nil=>grind[gq]
  | node l v r=>
   cases n with
   |zero=>
    rw[pq];cases m with
    |zero=>omega
    |succ m=>grind[fw]
   | succ n=>
    have hb:=hn2 n rfl;rw[pz];cases m with
    |zero=>grind[ml]
    |succ m=>
     rw[fw]at h;by_cases hn:n%2=0
     ·rw[if_pos hn,fw];grind
     ·rw[if_neg hn,fw];grind
theorem pw{h:AHeap}{o o':AObj}{id k:Nat}(hn:id<1000000)(hne:k≠id)(hg:h.get k=some o'):(h.put id o).get k=some o':=by
 rw[AHeap.get_some]at hg ⊢;exact⟨hg.1,hg.2.1,JQ 20 h.t id o k o' (by omega) hne hg.2.2⟩
theorem ca.obw{b:Option Nat}{i sz ep:Nat}{op:Bool}{v u:AV}(hg:s.heap.get i=some (.row sz op ep [v]))(hl:u.cells.length=v.cells.length)(hsc:∀y,y∈u.cells->dW y=true)(hle:∀(j:Nat)(y:AV),u.cells[j]?=some y->∃x:AV,v.cells[j]?=some x/\Le y x):
  ca G b s ⟨s.tmps,s.heap.put i (.row sz op ep [u])⟩:=by
 have hi:=(AHeap.get_some.1 hg).2.1;intro N h0 pl0 M0 w0 a w hb ⟨⟨pl,M,g1,g2,g3,g4,g5⟩,k1,k2⟩;refine⟨⟨pl,M,g1,⟨g2.dom,fun id p o hp hgo=>?_,g2.blk,g2.inj,g2.imm,g2.sep⟩,g3,⟨g4.ext,g4.new,g4.mem,g4.size,g4.kept,g4.blks,fun id p hp hgo=>?_,g4.stay,g4.memNew,g4.os,g4.tape,g4.out,g4.drawn⟩,g5⟩,k1,k2⟩
 ·rcases AHeap.get_put hi hgo with⟨rfl,rfl⟩|⟨_,h2⟩
  ·have ho:=g2.obj _ p _ hp hg;generalize w.heap[p.blk]?=ob at ho
   match ob,ho with
   | some (.cells c t fr),ho=>
    obtain⟨e1,e2,e3,e4,e5,e6,e7,e8⟩:=ho;refine⟨e1,e2,e3,e4,e5,e6,e7,e8.fit,fun x hx=>?_,fun j x q y hj hq=>?_⟩
    ·simp only[oC]at hx;subst hx;exact⟨hl.trans (e8.elem v (ef ..)).1,hsc⟩
    ·cases j with
     |zero=>
      simp only[Co,yz]at hj;subst hj;obtain⟨z,z1,z2⟩:=hle q y hq;exact z2 _ _ _ (e8.cell 0 v q z rfl z1)
     |succ j=>simp_all
  ·exact g2.obj id p o hp h2
 ·have:=g4.live id p hp hgo;cases hcp:(s.heap.put i (.row sz op ep [u])).get id with
  |none=>rfl
  |some o=>
   rcases AHeap.get_put hi hcp with⟨rfl,rfl⟩|⟨_,h2⟩
   all_goals simp_all
theorem I9(hG:jc G){m k i:Nat}{o0 o':AObj}{ts:List Nat}{L:List (Nat×AV)}{os:List AObj}(hm:m<=k)(hk:k<=s.heap.n)(hgi:s.heap.get i=some o0)
  (hO:∀(pl:Pl)(M:dT)(w:World)(p:Place),cN pl M s.heap w->pl i=some p->bm (dj pl k) (mw pl M w k) p o' w.heap[p.blk]?)
  (hc:∀id o,id<k->(s.heap.put i .dead).get id=some o->o.top<=k)(e:Ev.frzL s.tmps s.heap k ts=some L)(ho:eR (s.heap.put i o') k 0=some os):ca G (some m) s ⟨eE s.tmps.n L,aw os⟩:=by
 have hi:=(AHeap.get_some.1 hgi).2.1;have e0:∀t u,(t,u)∈L->∃v,s.tmps.get t=some v/\Plain s.heap k v u:=fun t u h=>by grind[rp,Plain.frz]
 have key:ca G (some m) s ⟨eE s.tmps.n L,(s.heap.put i o').cut k⟩:=by
  intro N h0 pl0 M0 w0 a w hb ⟨⟨pl,M,g1,g2,g3,g4,g5⟩,k1,k2⟩;obtain⟨b1,b2⟩:=hb m rfl;have hlow:∀id p,pl0 id=some p->id<k:=fun id p hp=>F5 (b2 id p hp) hm
  have h1:cN pl M (s.heap.put i .dead) w:=⟨g2.dom,fun id2 p o hp hgo=>by
   rcases AHeap.get_put hi hgo with⟨rfl,rfl⟩|⟨_,h2⟩
   ·simp[bm]
   ·exact g2.obj id2 p o hp h2,g2.blk,g2.inj,g2.imm,g2.sep⟩
  have h2:cN (dj pl k) (mw pl M w k) ((s.heap.put i .dead).cut k) w:=h1.dropped (n:=k) hk hc;have h3:cN (dj pl k) (mw pl M w k) ((s.heap.put i o').cut k) w:=⟨h2.dom,fun id2 p o hp hgo2=>by
   obtain⟨z1,z2⟩:=iH (h:=s.heap.put i o') hk hgo2;obtain⟨hp1,hp2⟩:=aT.1 hp;rcases AHeap.get_put hi z2 with⟨rfl,rfl⟩|⟨z3,z4⟩
   ·simp_all
   ·have hcut:((s.heap.put i .dead).cut k).get id2=some o:=by
     have q3:=AHeap.get_some.1 (pw (h:=s.heap) (o:=.dead) hi z3 z4);exact AHeap.get_some.2 ⟨z1,q3.2.1,q3.2.2⟩
    exact h2.obj id2 p o hp hcut,h2.blk,h2.inj,h2.imm,h2.sep⟩
  refine⟨⟨dj pl k,mw pl M w k,(g1.none hG).mono (n8.refl _) (f9 k),h3,⟨g3.size,g3.defers,fun t u ht=>?_⟩,⟨?_,?_,?_,g4.size,g4.kept,?_,?_,?_,?_,g4.os,g4.tape,g4.out,g4.drawn⟩,by show h0.n<=k;omega⟩,k1,k2⟩
  ·obtain⟨v,q1,q2⟩:=e0 t u (vQ ht);obtain⟨q3,q4⟩:=g3.at_ t v q1;exact⟨q3,q2 _ _ _ _ _ g2 (f9 k) (fun id p sz op ep xs c t fr z1 z2 _ z4=>pW g2 z1 z2 z4) q4⟩
  ·intro id p hp;obtain⟨p',q1,q2⟩:=g4.ext id p hp;exact⟨p',aT.2 ⟨hlow id p hp,q1⟩,q2⟩
  ·intro id hid hp;have:=g4.new id hid hp;cases hcp:dj pl k id with
   |none=>rfl
   |some q=>rw[(aT.1 hcp).2]at this;omega
  ·exact fun b c hb=>f9 k b c (g4.mem b c hb)
  ·exact fun id p' hp'=>g4.blks id p' (aT.1 hp').2
  ·intro id2 p hp hg;have:=g4.live id2 p hp hg;cases hcp:((s.heap.put i o').cut k).get id2 with
   |none=>rfl
   |some o=>
    rcases AHeap.get_put hi (iH (h:=s.heap.put i o') hk hcp).2 with⟨rfl,rfl⟩|⟨_,z⟩
    all_goals simp_all
  ·exact fun id p hp hg=>aT.2 ⟨hlow id p hp,g4.stay id p hp hg⟩
  ·intro b c hb;rcases jk hb with q|⟨⟨id,p,q1,q2,q3⟩,_⟩
   ·exact g4.memNew b c q
   ·rcases g4.blks id p q2 with⟨p0,q4,_⟩|q4
    all_goals grind
 refine ca.trans key (ca.sub ⟨rfl,fun _ _ h=>h,?_,fun id o h=>?_⟩)
 ·obtain⟨q1,q2⟩:=eB k 0 os ho;show k<=(aw os).n
  grind[aw]
 ·obtain⟨q1,q2⟩:=eB k 0 os ho;have hx:=oJ h;have h4:=q2 id o hx;rw[gn]at h4;have hlt:id<k:=by grind
  have h5:=AHeap.get_some.1 h4;exact AHeap.get_some.2 ⟨hlt,h5.2.1,h5.2.2⟩
theorem ca.fzo(hG:jc G){m k i sz ep' id ep off len sz2:Nat}{cap:Option Nat}{op op2:Bool}{xs ys:List AV}{ts:List Nat}{L:List (Nat×AV)}{os:List AObj}(hm:m<=k)(hk:k<=s.heap.n)
  (hgi:s.heap.get i=some (.row sz op ep' [.slice id ep off len cap]))(hid:k<=id)(hgo:s.heap.get id=some (.row sz2 op2 ep xs))(hy:(xs.drop off).take len=ys)(ht:az ys=0)
  (hc:fN (s.heap.put i .dead) k k=true)(e:Ev.frzL s.tmps s.heap k ts=some L)(ho:eR (s.heap.put i (.row sz op ep' [.ls ys])) k 0=some os):ca G (some m) s ⟨eE s.tmps.n L,aw os⟩:=by
 refine I9 hG hm hk hgi (fun pl M w p g2 hp2=>?_) (fun id o q1 q2=>gL k hc id o q1 q2) e ho;have hob:=g2.obj _ p _ hp2 hgi;generalize w.heap[p.blk]?=ob at hob
 match ob,hob with
 | some (.cells c t fr),hob=>
  obtain⟨e1,e2,e3,e4,e5,e6,e7,e8⟩:=hob;refine⟨e1,e2,e3,e4,e5,e6,e7,e8.fit,fun x hx=>?_,fun j x q y hj hq=>?_⟩
  ·simp only[oC]at hx;subst hx;exact⟨(e8.elem (.slice id ep off len cap) (ef ..)).1,fun y hy=>by simp only[AV.cells,oC]at hy;subst hy;rfl⟩
  ·cases j with
   | zero=>
    simp only[Co,yz]at hj;subst hj;cases q with
    |zero=>
     simp only[AV.cells,Co,yz]at hq;subst hq;have hv:=e8.cell 0 _ 0 _ rfl rfl;exact .lsp (Plain.slice hgo hid hy ht pl M (mw pl M w k) w _ g2 (f9 k) (fun id p sz op ep xs c t fr z1 z2 _ z4=>pW g2 z1 z2 z4) hv).loose ht
    |succ q=>grind[AV.cells]
   |succ j=>simp_all
theorem ca.fza(hG:jc G){m k i j sz ep':Nat}{op:Bool}{cs ys:List AV}{ts:List Nat}{L:List (Nat×AV)}{os:List AObj}(hm:m<=k)(hk:k<=s.heap.n)
  (hgi:s.heap.get i=some (.row sz op ep' [.agg cs]))(v:AV)(hj:jP cs j=some v)(hvs:dW v=true)(hpl:∀(pl:Pl)(M Md:dT)(w:World)(x:Value),cN pl M s.heap w->qF M Md->(∀id p sz op ep xs c t fr,k<=id->pl id=some p->s.heap.get id=some (.row sz op ep xs)->w.heap[p.blk]?=some (.cells c t fr)->Md p.blk=some c)->VRel pl M v x->VRel (dj pl k) Md (.ls ys) x)
  (hik:i<k)(hc:fN (s.heap.put i (.row sz op ep' [.agg (cs.set j (.ls ys))])) k k=true)(e:Ev.frzL s.tmps s.heap k ts=some L)(ho:eR (s.heap.put i (.row sz op ep' [.agg (cs.set j (.ls ys))])) k 0=some os):ca G (some m) s ⟨eE s.tmps.n L,aw os⟩:=by
 have hi:=(AHeap.get_some.1 hgi).2.1;have hcl:=fun id o q1 q2=>gL k hc id o q1 q2
 have htop:az (cs.set j (.ls ys))<=k:=by
  obtain⟨q1,q2⟩:=eB k 0 os ho;have hx:os[i]?=some os[i]:=mn (by omega);have h4:=q2 i _ hx;rw[gn]at h4;rcases AHeap.get_put hi h4 with⟨_,h5⟩|⟨h5,_⟩
  ·grind[AObj.top,az,AV.top,ra]
  omega
 refine I9 hG hm hk hgi (fun pl M w p g2 hp2=>?_) (fun id o q1 q2=>?_) e ho
 ·have hob:=g2.obj _ p _ hp2 hgi;generalize w.heap[p.blk]?=ob at hob
  match ob,hob with
  | some (.cells c t fr),hob=>
   obtain⟨e1,e2,e3,e4,e5,e6,e7,e8⟩:=hob;have hel:=e8.elem (.agg cs) (ef ..);refine⟨e1,e2,e3,e4,e5,e6,e7,e8.fit,fun x hx=>?_,fun n x q y hn hq=>?_⟩
   ·simp only[oC]at hx;subst hx;refine⟨by grind[AV.cells],fun y hy=>?_⟩;simp only[AV.cells]at hy;rcases List.mem_or_eq_of_mem_set hy with h|h
    ·exact hel.2 y h
    ·subst h;rfl
   ·cases n with
    | zero=>
     simp only[Co,yz]at hn;subst hn;simp only[AV.cells]at hq;rw[Ct]at hq;split at hq
     ·rename_i hqj;subst hqj;split at hq
      ·cases hq
       have hv:=e8.cell 0 _ j _ rfl (by rw[pB]at hj;exact hj);grind[f9,pW]
      grind
     ·rename_i hne;have hv:=e8.cell 0 _ q y rfl hq;refine hv.agree (n:=k) (eJ.1 htop y (bH (i:=q) ?_)) ee (f9 k);simp_all
    |succ n=>simp_all
 ·rcases AHeap.get_put hi q2 with⟨_,rfl⟩|⟨h1,h2⟩
  ·exact b8 _
  grind[pw]
theorem fY{dst:Option Tmp}(h:je A dst v=some A'):A'.n=A.n:=by
 cases dst with
 |none=>grind[je]
 |some t=>
  have hp':A.put t v=some A':=h;grind[Fr.put]
theorem tg(hG:jc G){Q:Prop}:∀{d:D}{s:St}{K:D->St->Prop},s.tmps.n<=60000->pre m d s K->(∀d' s',s'.tmps.n=s.tmps.n->ca G (some m) s s'->K d' s'->Q)->Q:=by
 intro d;induction d with
 | le t u d ih=>
  intro s K hn h k;simp only[pre]at h;split at h
  ·rename_i v hv;obtain⟨h1,h2⟩:=h;split at h2
   ·rename_i A' hp;have hn':A'.n=s.tmps.n:=by
     have hp':s.tmps.put t u=some A':=hp;grind[Fr.put]
    refine ih (by simp_all) h2 fun d' s' e1 e2 e3=>k d' s' (by simp_all) ?_ e3
    exact ca.trans (ca.put (A:=s.tmps) (h:=s.heap) hn hv h1 hp) e2
   simp_all
  simp_all
 | frz k0 ts d ih=>
  intro s K hn h k;simp only[pre]at h;split at h
  ·rename_i hck;simp only[ba,bZ,decide_eq_true_eq]at hck;obtain⟨c1,c2⟩:=hck;obtain⟨c3,h⟩:=h;have c3:=jo c3;split at h
   ·rename_i L hL;split at h
    ·rename_i os ho;exact ih (s:=⟨eE s.tmps.n L,aw os⟩) hn h fun d' s' e1 e2 e3=>k d' s' e1 (ca.trans (ca.frzL hG c1 c2 c3 hL ho) e2) e3
    simp_all
   simp_all
  simp_all
 |psh o d ih=>grind[pre,ca.trans,ca.psh]
 | frl k0 ts ls d ih=>
  intro s K hn h k;simp only[pre]at h;split at h
  ·rename_i hck;simp only[ba,bZ,decide_eq_true_eq]at hck;obtain⟨c1,c2⟩:=hck;obtain⟨c3,c4,h⟩:=h;split at h
   ·rename_i L K' os hL hK ho;exact ih (s:=⟨eE s.tmps.n (K'++L),aw os⟩) hn h fun d' s' e1 e2 e3=>k d' s' e1 (ca.trans (ca.frl hG c1 c2 (jo c3) hL hK c4 ho) e2) e3
   simp_all
  simp_all
 | fsl k0 ts t ys d ih=>
  intro s K hn h k;simp only[pre]at h;split at h
  ·rename_i hck;simp only[ba,bZ,decide_eq_true_eq]at hck;obtain⟨c1,c2⟩:=hck;obtain⟨c3,h⟩:=h;have c3:=jo c3;split at h
   ·rename_i L id ep off len cap hL ht;split at h
    ·rename_i sz op ep' xs os hid hg ho;simp only[ba,decide_eq_true_eq]at hid;obtain⟨⟨rfl,q2,q3⟩,h⟩:=h;exact ih (s:=⟨eE s.tmps.n ((t,.ps ys (oO cap (some len)))::L),aw os⟩) hn h fun d' s' e1 e2 e3=>k d' s' e1 (ca.trans (Pv hG c1 c2 c3 hL ho ht hid hg q2 q3) e2) e3
    simp_all
   simp_all
  simp_all
 | ren ids pl ts d ih=>
  intro s K hn h k;simp only[pre]at h;split at h
  ·rename_i hck;simp only[bZ]at hck;split at h
   ·rename_i L hL;obtain⟨os,h,o1,o2⟩:=Ui (is:=ids) h;exact ih (s:=⟨eE s.tmps.n L,aw os⟩) hn h fun d' s' e1 e2 e3=>k d' s' e1 (ca.trans (Pw hG hck.1 hck.2 hL o1 o2) e2) e3
   simp_all
  simp_all
 | obj i o d ih=>
  intro s K hn h k;simp only[pre]at h;split at h
  ·rename_i o' ho;obtain⟨rfl,h⟩:=h;have hS:SubSt ⟨s.tmps,s.heap.put i o'⟩ s:=by
    refine⟨rfl,fun _ _ h=>h,af _,fun id o hh=>?_⟩;rcases AHeap.get_put (AHeap.get_some.1 ho).2.1 hh with⟨rfl,rfl⟩|⟨_,h2⟩
    all_goals omega
   exact ih (s:=⟨s.tmps,s.heap.put i o'⟩) hn h fun d' s' e1 e2 e3=>k d' s' e1 (ca.trans (ca.sub hS) e2) e3
  simp_all
 | obw i u d ih=>
  intro s K hn h k;simp only[pre]at h;split at h
  ·rename_i sz op ep v hg;split at h
   ·rename_i hck;simp only[bZ,aB,decide_eq_true_eq]at hck;exact ih (s:=⟨s.tmps,s.heap.put i (.row sz op ep [u])⟩) hn h.2 fun d' s' e1 e2 e3=>k d' s' e1 (ca.trans (ca.obw hg hck.1.1 (CT hck.2) h.1) e2) e3
   simp_all
  simp_all
 | fzo i k0 ts ys d ih=>
  intro s K hn h k;simp only[pre]at h;split at h
  ·rename_i hck;simp only[ba,dN,bZ,decide_eq_true_eq]at hck;split at h
   ·rename_i sz op ep' id ep off len cap hg;split at h
    ·rename_i sz2 op2 ep2 xs L os hid hgo hL ho;simp only[ba,decide_eq_true_eq]at hid;obtain⟨c3,⟨rfl,q2,q3⟩,h⟩:=h;exact ih (s:=⟨eE s.tmps.n L,aw os⟩) hn h fun d' s' e1 e2 e3=>k d' s' e1 (ca.trans (ca.fzo hG hck.1.1 hck.1.2 hg hid hgo q2 q3 (jo c3) hL ho) e2) e3
    simp_all
   simp_all
  simp_all
 | fza i j k0 ts ys d ih=>
  intro s K hn h k;simp only[pre]at h;split at h
  ·rename_i hck;simp only[ba,dN,bZ,decide_eq_true_eq]at hck;split at h
   ·rename_i sz op ep' cs hg;split at h
    ·rename_i id ep off len cap hj;split at h
     ·rename_i sz2 op2 ep2 xs L os hid hgo hL ho;simp only[ba,decide_eq_true_eq]at hid;obtain⟨c3,⟨rfl,q2,q3⟩,h⟩:=h;exact ih (s:=⟨eE s.tmps.n L,aw os⟩) hn h fun d' s' e1 e2 e3=>k d' s' e1 (ca.trans (ca.fza hG hck.1.1 hck.1.2 hg _ hj rfl (fun pl M Md w x a1 a2 a3 a4=>.lsp (Plain.slice hgo hid q2 q3 pl M Md w x a1 a2 a3 a4).loose q3) hck.2 (jo c3) hL ho) e2) e3
     simp_all
    ·rename_i id ep len cap hj;split at h
     ·rename_i sz2 op2 ep2 xs L os hid hgo hL ho;simp only[ba,decide_eq_true_eq]at hid;obtain⟨c3,⟨rfl,q2,q3⟩,h⟩:=h;exact ih (s:=⟨eE s.tmps.n L,aw os⟩) hn h fun d' s' e1 e2 e3=>k d' s' e1 (ca.trans (ca.fza hG hck.1.1 hck.1.2 hg _ hj rfl (fun pl M Md w x a1 a2 a3 a4=>Plain.sl0 hgo hid q2 q3 pl M Md w x a1 a2 a3 a4) hck.2 (jo c3) hL ho) e2) e3
     simp_all
    simp_all
   simp_all
  simp_all
 |cs T l a b iha ihb=>
  intro s K hn h k;simp only[pre]at h;cases hl:l with
  |nil=>grind
  |cons w r=>grind
 |bs t a b iha ihb=>
  intro s K hn h k;simp only[pre]at h;cases ht:t with
  |true=>grind
  |false=>grind
 |abs=>intro s K hn h k;exact h.elim
 |fin|go _ _ _|val _ _ _|opv _ _ _ _|elem _ _ _|chr _ _ _|app _ _|pk _ _ _|efd _ _ _|efx _ _ _ _|look _ _ _|upd _ _ _ _|pure _ _ _|asl _ _ _|rix _ _|rld _ _ _|rst _ _ _ _|eff _ _ _ _ _ _|nz _ _ _ _ _|slc _ _|slp _ _ _|apx _ _ _|apl _ _|tt _ _|ff _ _|br _ _ _ _|un _ _ _|inn _ _|join _ _ _ _ _ _ _ _|loop _ _ _ _ _ _ _ _|loop2 _ _ _ _ _ _ _ _ _ _ _ _ _ _=>
  intro s K hn h k;exact k _ s rfl (ca.refl s) h
theorem ar.bounded{b:Option Nat}{Φ:AExit->St->Prop}(h:s.tmps.n<=60000->ar P G b c s Φ):ar P G b c s Φ:=fun N h0 pl0 M0 w0 a w Q hb hs hQ=>h (by grind[cases SNow]) N h0 pl0 M0 w0 a w Q hb hs hQ
theorem cH.bounded{b:Option Nat}{Φ:St->Prop}(h:s.tmps.n<=60000->cH P G b ops l s Φ):cH P G b ops l s Φ:=fun i N h0 pl0 M0 w0 a w Q hb hl hs hQ=>h (by grind[cases SNow]) i N h0 pl0 M0 w0 a w Q hb hl hs hQ
theorem So{op:Op}{xs:List AV}{i s:Nat}{x:AV}(e:Iy P G op A=some (xs,i,s))(hx:jP xs i=some x)(hs:Nat.beq x.cells.length s=true):∃xs' i',(fC P G op).run A h=some (.val (.pptr xs' i' 0) h)/\jP xs' i'=some x:=by
 unfold Iy at e;split at e
 ·rename_i t y ix;split at e
  ·rename_i el hu;split at e
   ·rename_i s0 hsz;split at e
    ·rename_i ys k hl hi;simp only[yz,ub]at e;obtain⟨rfl,rfl,rfl⟩:=e;refine⟨ys,k,?_,hx⟩;simp only[fC,hu,hsz];cases hv:(cE G y).run A with
     |none=>rw[hv]at hl;cases hl
     | some v=>
      cases hj:(cE G ix).run A with
      |none=>rw[hj]at hi;cases hi
      |some iv=>
       rw[hj]at hi;have hi:gj iv=some k:=hi;rw[hv]at hl;cases v<;>simp only[ZM,yz,reduceCtorEq]at hl
       all_goals grind[mU,jR,bA]
    grind
   grind
  grind
 grind
theorem x9{op:Op}{x:AV}{K:Prop}(e:ve (Iy P G op A) x K):(∃xs i,(fC P G op).run A h=some (.val (.pptr xs i 0) h)/\jP xs i=some x)/\K:=by
 unfold ve at e;split at e
 ·rename_i xs i s he;split at e
  ·rename_i hs;exact⟨So he e.1 hs,e.2⟩
  simp_all
 simp_all
theorem KO{op:Op}{c:UInt8}{K:Prop}(e:Fa (Yu P G op A) c K):(fC P G op).run A h=some (.val (.int .u8 (.ofNat c.toNat)) h)/\K:=by
 unfold Fa at e;split at e
 ·rename_i s i he;refine⟨?_,e.2⟩;unfold Yu at he;split at he
  ·rename_i t y ix;split at he
   ·rename_i hu;split at he
    ·rename_i s' k hv hi;simp only[yz,ub]at he;obtain⟨rfl,rfl⟩:=he;simp only[fC,hu];cases hj:(cE G ix).run A with
     |none=>rw[hj]at hi;cases hi
     |some iv=>
      rw[hj]at hi;have hi:gj iv=some k:=hi;grind[IP,bA]
    grind
   grind
  grind
 simp_all
theorem xo{op:Op}{v:AV}{K:Prop}(e:vX op h (pF P G op A) v K):(fC P G op).run A h=some (.val v h)/\K:=by
 unfold vX at e;split at e
 ·rename_i l hi hl;split at e
  ·rename_i es c hg;refine⟨?_,e.2⟩;have e1:=e.1;cases op<;>simp only[Rm,reduceCtorEq]at hi
   rename_i t m k ok;simp only[pF]at hl;grind[fC,vZ,bA]
  simp_all
 simp_all
theorem zT{op:Op}{K:AV->Prop}(e:yD (LL P G op A h) K):∃v,(fC P G op).run A h=some (.val v h)/\K v:=by
 unfold yD at e;split at e
 ·rename_i q he;obtain⟨⟨e1,e2⟩,e3⟩:=e;refine⟨_,?_,e3⟩;unfold LL at he;split at he
  ·rename_i t x ix;split at he
   ·rename_i el hu;split at he
    ·rename_i s0 hsz;split at he
     ·rename_i id ep off len c k hv hi;split at he
      ·rename_i sz op' ep1 xs hg;split at he
       ·rename_i hb;cases he
        simp only at e1 e2;subst e1;cases hj:(cE G ix).run A with
        |none=>rw[hj]at hi;cases hi
        |some iv=>
         rw[hj]at hi;have hi:gj iv=some k:=hi;have hlt:Nat.blt k len=true:=by simp_all
         have hb':(Nat.beq sz (s0+1)&&Nat.beq ep ep)=true:=by simp_all
         have ha:FA off k=off+k:=by unfold FA;grind
         simp only[fC,hu,hsz,hv,hj,mU,jR,hi,rJ,hg,hb',hlt,bA,ha]
       grind
      grind
     ·rename_i id ep len c k hv hi;split at he
      ·rename_i sz op' ep1 xs hg;split at he
       ·rename_i hb;cases he
        simp only at e1 e2;subst e1;cases hj:(cE G ix).run A with
        |none=>rw[hj]at hi;cases hi
        |some iv=>
         rw[hj]at hi;have hi:gj iv=some k:=hi;have hlt:Nat.blt k len=true:=by simp_all
         have hb':(Nat.beq sz (s0+1)&&Nat.beq ep ep)=true:=by simp_all
         have ha:FA 0 k=0+k:=by grind[FA]
         simp only[fC,hu,hsz,hv,hj,mU,jR,hi,rJ,hg,hb',hlt,bA,ha]
       grind
      grind
     grind
    grind
   grind
  grind
 simp_all
theorem yG{x:Option Operand}{d n:Nat}{k:Option AV->Option AV}(e:Ov G A d x=some n):∃w,rk G x A k=k w/\jt d w=some n:=by
 cases x with
 |none=>exact⟨none,rfl,e⟩
 |some x=>
  simp only[Ov,Rf]at e;cases hx:(cE G x).run A with
  |none=>grind
  |some v=>rw[hx]at e;exact⟨some v,by grind[rk],e⟩
theorem zE{op:Op}{ys:List AV}{K:AV->Prop}(e:yu (Lm P G op A) ys K):∃v,(∀h,(fC P G op).run A h=some (.val v h))/\K v:=by
 unfold yu at e;split at e
 ·rename_i q he;obtain⟨⟨e1,⟨e2,e4⟩,e5⟩,e3⟩:=e;refine⟨_,fun h=>?_,e3⟩;unfold Lm at he;split at he
  ·rename_i t x lo hi;split at he
   ·rename_i el hu;split at he
    ·rename_i s0 hsz;split at he
     ·rename_i xs hv;split at he
      ·rename_i l hh hl hhi;cases he
       simp only at e1 e2 e4 e5;subst e5;have hc:(Nat.ble l hh&&Nat.ble hh xs.length)=true:=by simp_all
       obtain⟨w1,o1,n1⟩:=yG (k:=fun lo=>rk G hi A fun hi=>rk G none A fun mx=>di (s0+1) h ((cE G x).run A) lo hi mx) hl;obtain⟨w2,o2,n2⟩:=yG (k:=fun hi=>rk G none A fun mx=>di (s0+1) h ((cE G x).run A) w1 hi mx) hhi;simp only[fC,hu,hsz];rw[o1,o2];simp only[rk,di,hv,gp,e1,n1,n2,vo,hc,Hx,bA]
      grind
     grind
    grind
   grind
  grind
 simp_all
theorem zF{op:Op}{K:AV->Prop}(e:yA (Ln P G op A h) K):∃v,(fC P G op).run A h=some (.val v h)/\K v:=by
 unfold yA at e;split at e
 ·rename_i q he;obtain⟨⟨e1,e2,e4⟩,e3⟩:=e;refine⟨_,?_,e3⟩;unfold Ln at he;split at he
  ·rename_i t x lo hi;split at he
   ·rename_i el hu;split at he
    ·rename_i s0 hsz;split at he
     ·rename_i id ep off len hv;split at he
      ·rename_i l hh sz op' ep1 xs hl hhi hg;split at he
       ·rename_i hb;cases he
        simp only at e1 e2 e4;subst e1;have ha:∀k,FA off k=off+k:=fun k=>by unfold FA;grind
        have hs:XV hh l=hh-l:=by unfold XV;grind
        rw[ha]at e4;have hb':(Nat.beq sz (s0+1)&&Nat.beq ep ep)=true:=by simp_all
        have hc:(Nat.ble l hh&&Nat.ble hh (room xs.length off none))=true:=by simp only[room,ba,bZ,decide_eq_true_eq];omega
        obtain⟨w1,o1,n1⟩:=yG (k:=fun lo=>rk G hi A fun hi=>rk G none A fun mx=>di (s0+1) h ((cE G x).run A) lo hi mx) hl;obtain⟨w2,o2,n2⟩:=yG (k:=fun hi=>rk G none A fun mx=>di (s0+1) h ((cE G x).run A) w1 hi mx) hhi;simp only[fC,hu,hsz];rw[o1,o2];simp only[rk,di,hv,gp,rJ,hg,hb',n1,n2,qo,hc,bA,ha,hs]
       grind
      grind
     grind
    grind
   grind
  grind
 simp_all
theorem zS{op:Op}{x:AV}{K:AV->Prop}(e:yC (LI P G op A h) x K):∃v,(fC P G op).run A h=some (.val v h)/\K v:=by
 unfold yC at e;split at e
 ·rename_i q he;split at e
  ·rename_i v hp;obtain⟨⟨e1,e2⟩,e3⟩:=e;refine⟨_,?_,e3⟩;unfold LI at he;split at he;all_goals grind[fC,AA,Az,bA,Nat.beq_refl]
  simp_all
 simp_all
theorem zN{op:Op}{x:AV}{xs':List AV}{K:AHeap->Prop}(e:yB h (LD P G op A h) x xs' K):∃h',(fC P G op).run A h=some (.val gF h')/\K h':=by
 unfold yB at e;split at e
 ·rename_i q he;split at e
  ·rename_i y hp;obtain⟨⟨e1,e2,e4⟩,e3⟩:=e;refine⟨_,?_,e3⟩;unfold LD at he;split at he
   ·rename_i t a b;split at he
    ·rename_i n h1;split at he
     ·rename_i id ep i off v hv hb;split at he
      ·rename_i sz op' ep1 xs hg;split at he
       ·rename_i hf;cases he
        simp_all[fC,tj,wj]
       grind
      grind
     grind
    grind
   grind
  simp_all
 simp_all
theorem T4{es:List AEnt}{c:Nat}{k v:AV}{id:Nat}{r:Option (Option (Nat×AEnt))}{es':List AEnt}{c':Nat}(e:qt es c k v r=some (es',c')):yn h id es c k v r=some (h.put id (.map es' c')):=by
 unfold qt at e;grind[yn]
theorem zd{op:Op}{es':List AEnt}{c':Nat}{K:AHeap->Prop}(e:yo op h (pF P G op A) es' c' K):∃h',(fC P G op).run A h=some (.val gF h')/\K h':=by
 unfold yo at e;split at e
 ·rename_i l hi hl;split at e
  ·rename_i es c hg;refine⟨_,?_,e.2⟩;have e1:=T4 (h:=h) (id:=l.id) e.1;have key:∀(t:TypeId)(m k x:Operand),pF P G (.mapUpdate t m k x) A=some l->(fC P G (.mapUpdate t m k x)).run A h=some (.val gF (h.put l.id (.map es' c'))):=by
    intro t m k x hl;simp only[pF]at hl;split at hl
    ·rename_i kt el hu;split at hl
     ·rename_i ag sz lv h1 h2 h3;split at hl
      ·rename_i id kk xx hm hk hx;split at hl
       ·rename_i hkr;cases hl
        simp only[fC,hu,h1,h2,h3,hm,hk,hx,rO,hkr,hg];rw[e1];rfl
       grind
      grind
     grind
    grind
   cases op<;>simp only[WF,reduceCtorEq]at hi
   ·exact key _ _ _ _ hl
   simp_all
  simp_all
 simp_all
theorem C5{op:Op}{w:Bool}{K:AV->Prop}(e:Eo w (pkR G w op A) K):∃v,(fC P G op).run A h=some (.val v h)/\K v:=by
 unfold Eo at e;split at e
 ·rename_i t v he;refine⟨v,?_,e.2⟩;have e1:=e.1;subst e1;unfold pkR at he;split at he
  ·rename_i c a b;split at he
   ·rename_i t' hc;cases t<;>simp only[]at he<;>split at he<;>first|(cases he;done)|skip
    all_goals
     rename_i u hu;simp only[yz,ub]at he;obtain⟨rfl,rfl⟩:=he;simp only[fC,hc,LR,hu,bA]
   grind
  grind
 simp_all
theorem K4 {op:Op}{K:AV->AHeap->Prop}(e:Fg h (Tq P G op A h) K):∃v h',(fC P G op).run A h=some (.val v h')/\K v h':=by
 unfold Fg at e;split at e
 ·rename_i a ha;split at e
  ·rename_i sz ep xs hg;split at e
   ·rename_i hsz;obtain⟨⟨e1,e2,e3⟩,hK⟩:=e;refine⟨_,_,?_,hK⟩;unfold Tq at ha;split at ha
    ·rename_i args argTypes;split at ha
     ·rename_i s x hargs;split at ha
      ·rename_i el te hel hts;split at ha
       ·rename_i i hinfo;split at ha
        ·rename_i sz0 z hisz hz;split at ha
         ·rename_i hzz;unfold aar at ha;split at ha
          ·rename_i id ep0 len x0 hs hx;split at ha
           ·rename_i y ys hsrc;split at ha
            ·rename_i hfit;cases ha
             simp only[]at e1 e2 e3 hsz hg;subst e1;have hbeq:Nat.beq ep0 ep0=true:=qH _;have hsz':Nat.beq (sz0+1) sz=true:=by simp_all
             have hble:Nat.ble (0+len+(y::ys).length) xs.length=false:=by grind[ba]
             simp_all[fC,iG,du,gT,ii,fG]
            grind
           grind
          grind
         grind
        grind
       grind
      grind
     grind
    grind
   simp_all
  simp_all
 simp_all
theorem BH {op:Op}{K:AV->AHeap->Prop}(e:y8 h (Ng P G op A h) K):∃v h',(fC P G op).run A h=some (.val v h')/\K v h':=by
 unfold y8 at e;split at e
 ·rename_i a ha;obtain⟨⟨hne,hfit⟩,e⟩:=e;unfold Ng at ha;split at ha
  ·rename_i args argTypes;split at ha
   ·rename_i s x hargs;split at ha
    ·rename_i el te hel hts;split at ha
     ·rename_i i hinfo;split at ha
      ·rename_i sz0 z hisz hz;split at ha
       ·rename_i hzz;unfold aas at ha;split at ha
        ·rename_i sv xv hs hx;split at ha
         ·rename_i ys hsrc;cases ha
          simp only[]at hne hfit e;obtain⟨y,yr,rfl⟩:∃y yr,ys=y::yr:=by
           cases ys with
           |nil=>simp_all
           |cons y yr=>simp_all
          split at e
          ·refine⟨_,_,?_,e.2⟩;simp_all[fC,iG,du,gT,ii,i7,fG]
          ·refine⟨_,_,?_,e.2⟩;have e1:small (([]:List AV).length+(y::yr).length) i.bytes=true:=by simp_all
           have e2:eX (sz0+1) ([]:List AV)=true:=rfl;simp only[fC,hargs,iG,hel,hts,hinfo,hisz,hz,hzz,hs,hx,du,gT,hsrc,ii,hfit,e1,e2,Bool.and_true,i7,zV,fG]
          ·rename_i z0 zs;obtain⟨⟨e1,e2⟩,hK⟩:=e;refine⟨_,_,?_,hK⟩;simp only[fC,hargs,iG,hel,hts,hinfo,hisz,hz,hzz,hs,hx,du,gT,hsrc,ii,hfit,e1,e2,Bool.and_true,i7,fG]
          ·rename_i id ep0 len;split at e
           ·rename_i sz ep xs hg;split at e
            ·rename_i hsz;obtain⟨⟨e1,e2,e3⟩,hK⟩:=e;refine⟨_,_,?_,hK⟩;subst e1;have hbeq:Nat.beq ep0 ep0=true:=qH _;have hsz':Nat.beq (sz0+1) sz=true:=by simp_all
             have hble:Nat.ble (0+len+(y::yr).length) xs.length=false:=by grind[ba]
             simp_all[fC,iG,du,gT,ii,fG]
            simp_all
           simp_all
          simp_all
         grind
        grind
       grind
      grind
     grind
    grind
   grind
  grind
 simp_all
theorem cH.nz{b:Option Nat}{Φ:St->Prop}{t:Nat}{xs:List AV}{A1:Fr}(ht:s.tmps.get t=some (.ls xs))(p0:xs=[]->∃A0,je s.tmps (some t) .nils=some A0/\cH P G b ops l ⟨A0,s.heap⟩ Φ)
  (p1:je s.tmps (some t) (.ps xs false)=some A1)(h1:cH P G b ops l ⟨A1,s.heap⟩ Φ):cH P G b ops l s Φ:=by
 intro i N h0' pl0 M0 w0 a w Q hb hl' hs hQ;obtain⟨pl,M,g1,g2,g3,g4,g5⟩:=hs.ex;obtain⟨hlt,hv⟩:=g3.at_ t _ ht;have same:a.put (some t) (a.tmps.getD t undef)=a:=by
  obtain⟨tm,df⟩:=a;simp only[Act.put];congr 1;apply Array.ext_getElem?;intro k;rw[Array.getElem?_setIfInBounds];by_cases e:t=k
  ·subst e;have:t<tm.size:=by have:=g3.size;simp_all
   simp_all
  grind
 generalize hc:a.tmps.getD t undef=c at hv same;cases hv with
 |lsn=>
  obtain⟨A0,e0,h0⟩:=p0 rfl;obtain⟨q1,q2⟩:=oW g3 (VRel.nils (pl:=pl) (M:=M)) (by rw[hs.n];exact hs.small) e0;rw[same]at q1;exact h0 i N h0' pl0 M0 w0 a w Q hb hl' ⟨⟨pl,M,g1,g2,q1,g4,g5⟩,by rw[<-hs.n];omega,hs.small⟩ hQ
 |lsp h ht0=>
  obtain⟨q1,q2⟩:=oW g3 h (by rw[hs.n];exact hs.small) p1;rw[same]at q1;exact h1 i N h0' pl0 M0 w0 a w Q hb hl' ⟨⟨pl,M,g1,g2,q1,g4,g5⟩,by rw[<-hs.n];omega,hs.small⟩ hQ
theorem TD{b:Option Nat}{Φ:St->Prop}{d:D}{K:D->St->Prop}(h:WPn d s K)(hk:∀d s',s'.tmps.n=s.tmps.n->K d s'->cH P G b ops l s' Φ):cH P G b ops l s Φ:=by
 have key:∀{t:Nat}{v:AV}{A':Fr},je s.tmps (some t) v=some A'->A'.n=s.tmps.n:=fun{t v A'} e=>by grind[je,Fr.put]
 cases d
 case nz t a b=>grind[WPn,ZC,bT,cH.nz]
 all_goals exact hk _ _ rfl h
theorem gM(hG:jc G)(hc:cL P G call){Φ:St->Prop}:∀(l:List Oper)(d:D)(s:St)(K:D->St->Prop),Y8 P G call m ops l d s K->(∀d s,s.tmps.n<=60000->K d s->Φ s)->cH P G (some m) ops l s Φ
 |[],d,s,K,h,hK=>cH.bounded fun hn=>cH.nil (hK d s hn h)
 | o::r,d,s,K,h,hK=>by
  refine cH.bounded fun hn=>?_
  simp only[Y8]at h;refine TD h fun d s hn' h=>?_
  have hn:s.tmps.n<=60000:=by omega
  refine tg hG hn h fun d s' _ hW h=>cH.weak hW ?_
  refine TD h fun d s' _ h=>?_
  refine TE h (fun hg d h=>?_) (fun hg d h=>?_)
  ·cases d<;>simp only[aaK]at h
   case go n d'=>
    split at h
    ·rename_i v h' hb;obtain⟨A',e1,e2⟩:=bT h;refine cH.one (s':=⟨A',h'⟩) hc ?_ (gM hG hc r _ _ K e2 hK);grind[zo,b0,fin]
    simp_all
   case val v d'=>
    obtain⟨A',e1,e2⟩:=bT h.2;exact cH.val hg h.1 e1 (gM hG hc r _ _ K e2 hK)
   case opv v h' d'=>
    obtain⟨A',e1,e2⟩:=bT h.2;exact cH.val hg h.1 e1 (gM hG hc r _ _ K e2 hK)
   case elem x d'=>
    obtain⟨⟨xs,i,e1,e2⟩,h2⟩:=x9 (h:=s'.heap) h;obtain⟨A',e3,e4⟩:=bT h2;exact LV hg e1 (Le.elem e2) e3 (gM hG hc r _ _ K e4 hK)
   case chr c d'=>
    obtain⟨e1,h2⟩:=KO (h:=s'.heap) h;obtain⟨A',e3,e4⟩:=bT h2;exact cH.val hg e1 e3 (gM hG hc r _ _ K e4 hK)
   case efd v h1 d'=>
    obtain⟨f,args,e1,e2,h2⟩:=ky h;obtain⟨A',e3,e4⟩:=bT h2;exact cH.calls hg e1 e2 fun v1 h1 ⟨q1,q2⟩=>by
     subst q1;subst q2;exact⟨A',e3,gM hG hc r _ _ K e4 hK⟩
   case look v d'=>
    obtain⟨e1,h2⟩:=xo h;obtain⟨A',e3,e4⟩:=bT h2;exact cH.val hg e1 e3 (gM hG hc r _ _ K e4 hK)
   case upd es c d'=>
    obtain⟨h',e1,h2⟩:=zd h;obtain⟨A',e3,e4⟩:=bT h2;exact cH.val hg e1 e3 (gM hG hc r _ _ K e4 hK)
   case pk w d'=>
    obtain⟨v,e1,h2⟩:=C5 (P:=P) (h:=s'.heap) h;obtain⟨A',e3,e4⟩:=bT h2;exact cH.val hg e1 e3 (gM hG hc r _ _ K e4 hK)
   case app d'=>
    obtain⟨v,h',e1,h2⟩:=K4 h;obtain⟨A',e3,e4⟩:=bT h2;exact cH.val hg e1 e3 (gM hG hc r _ _ K e4 hK)
   case apl d'=>
    obtain⟨v,h',e1,h2⟩:=BH h;obtain⟨A',e3,e4⟩:=bT h2;exact cH.val hg e1 e3 (gM hG hc r _ _ K e4 hK)
   case slc d'=>
    obtain⟨v,e1,h2⟩:=zF h;obtain⟨A',e3,e4⟩:=bT h2;exact cH.val hg e1 e3 (gM hG hc r _ _ K e4 hK)
   case slp ys d'=>
    obtain⟨v,e1,h2⟩:=zE h;obtain⟨A',e3,e4⟩:=bT h2;exact cH.val hg (e1 _) e3 (gM hG hc r _ _ K e4 hK)
   case rix d'=>
    obtain⟨v,e1,h2⟩:=zT h;obtain⟨A',e3,e4⟩:=bT h2;exact cH.val hg e1 e3 (gM hG hc r _ _ K e4 hK)
   case rld x d'=>
    obtain⟨v,e1,h2⟩:=zS h;obtain⟨A',e3,e4⟩:=bT h2;exact cH.val hg e1 e3 (gM hG hc r _ _ K e4 hK)
   case rst x xs d'=>
    obtain⟨h',e1,h2⟩:=zN h;obtain⟨A',e3,e4⟩:=bT h2;exact cH.val hg e1 e3 (gM hG hc r _ _ K e4 hK)
   case pure v d'=>
    obtain⟨f,args,e1,e2,h2⟩:=ky h;obtain⟨A',e3,e4⟩:=bT h2;exact cH.calls hg e1 (e2 _) fun v1 h1 ⟨q1,q2⟩=>by
     subst q1;subst q2;exact⟨A',e3,gM hG hc r _ _ K e4 hK⟩
   case eff Y rr hp I d'=>
    obtain⟨f,args,e1,e2,h2⟩:=ky h;exact cH.calls hg e1 e2 fun v1 h1 ⟨y,q0,q1,q2⟩=>by
     subst q1;subst q2;obtain⟨A',e3,e4⟩:=bT (h2 y q0);exact⟨A',e3,gM hG hc r _ _ K e4 hK⟩
  ·obtain⟨A',e1,e2⟩:=bT h;exact cH.skip hg e1 (gM hG hc r _ _ K e2 hK)
theorem Io{F:Fr}{d:DOper}(hg:fK ⟨F.n,cZ F d.look .nil⟩ d.r.g=some true):FU call F h d=Yr call F h d:=by
 simp only[FU,hg];rfl
theorem DSpec.less{F:Fr}{look:List Tmp}{h1:AHeap}{r:Rec}{u:AV}(hl:Le u v)(hd:DSpec P G ops o look F h v h1 r):DSpec P G ops o look F h u h1 r:=⟨hd.le,hd.keep,hd.new,fun nk n0 g pl M a w K Q q1 q2 q3 q4 q5 q6 q7 q8 q9 q10 hK=>hd.exec nk n0 g pl M a w K Q q1 q2 q3 q4 q5 q6 q7 q8 q9 q10 fun cv w' pl' M' g' z1 z2 z3 z4 z5 z6 z7=>hK cv w' pl' M' g' z1 z2 (hl _ _ _ z3) z4 z5 z6 z7⟩
theorem LU(hG:jc G){F:Fr}{h1:AHeap}{u:AV}(hg:fK ⟨F.n,cZ F (o.looksAt ops) .nil⟩ (e9 ops o)=some true)(e:(fC P G o.op).run ⟨F.n,cZ F (o.looksAt ops) .nil⟩ AHeap.none=some (.val v h1))
  (ht:jV F 0 (o.looksAt ops)=true)(hl:Le u (gk 0 0 v h1).1)(hu:u.top=0):DSpec P G ops o (o.looksAt ops) F h u h ⟨⟨false,[],0,0⟩,⟨false,[],0,0⟩⟩:=by
 refine⟨af _,fun _ _ _ h=>h,fun id h1 h2=>by omega,?_⟩;intro nk n0 g pl M a w K Q hn0 hnk hbig hr hvis hU hG' hs hdf hF hK;have hf0:FrRel pl M ⟨F.n,cZ F (o.looksAt ops) .nil⟩ a:=iy hs hdf hF;rw[f8 hf0 hg];simp only[if_true];left;have hf:FrRel (dj pl 0) M ⟨F.n,cZ F (o.looksAt ops) .nil⟩ a:=rH hs hdf ht hF;have hcut:dj pl 0=fun _=>none:=by
  funext id;cases hp:dj pl 0 id with
  |none=>rfl
  |some p=>exact absurd (aT.1 hp).1 (qL _)
 rw[hcut]at hf;have hG2:qr G (fun _=>none) M:=hG'.none hG;obtain⟨dst,op,ty,pos,after,guard⟩:=o;obtain⟨pl1,M1,cv,w1,nx,q1,q2,q3,q4,q5,q6⟩:=Aj (P:=P) (G:=G) op _ M _ _ v _ a w dst ty pos after guard hG2 (rY hr) hf e;obtain⟨pl2,M2,k1,k2,k3,_⟩:=vW 0 (v2:=(gk 0 0 v h1).1) (h2:=(gk 0 0 v h1).2) (rY hr) q4 q3 q5 q6 rfl;have fin:K (a.put dst cv) w1:=by
  obtain⟨z1,z2⟩:=wg (m:=n0) hr k2 k3;exact hK cv w1 pl M2 g z1 z2 ((hl _ _ _ k1).none hu) (n8.refl _) (fun id h _=>h) (fun _ _=>rfl) (fun id o' hh=>absurd hh (sK (ids:=[])))
 unfold Oper.wp;rw[q1];rcases q2 with rfl|⟨rfl,rfl⟩
 ·exact fin
 ·exact fin
theorem GF{h h':AHeap}:∀{n:Nat},Qj h h' n->∀id,id<n->h'.get id=h.get id
 |0,_,id,hid=>absurd hid (qL _)
 | n+1,hs,id,hid=>by
  rcases gQ id n with q|q
  ·exact GF hs.2 id q
  ·have:id=n:=by omega
   subst this;exact hs.1
theorem dI{masks:List (Nat×Nat)}{k:Nat}{r:Rec}{rs:List Rec}{p:Prop}(h:Bt masks k r rs p):l0 (fq masks k) r rs k=true/\p:=by grind[Bt]
theorem gg(hG:jc G)(hc:cL P G call){Φ:Fr->AHeap->Prop}:∀(l:List Oper)(k:Nat)(d:D)(F:Fr)(h:AHeap)(rs:List Rec)(K:D->St->Prop),Y9 P G call ops (eC ops.toList 0 []) l k d F h rs K->F.n<=60000->(∀d F h,F.n<=60000->K d ⟨F,h⟩->Φ F h)->tJ P G ops k l F h rs Φ
 |[],k,d,F,h,rs,K,hw,hF,hK=>by grind[Y9,tJ.done]
 | o::r,k,d,F,h,rs,K,hw,hF,hK=>by
  simp only[Y9]at hw;refine TE hw (fun hg d hw=>?_) (fun hg d hw=>?_)
  ·cases d<;>simp only[aaL]at hw
   case go n d'=>
    split at hw
    ·rename_i v h' rec hd;obtain⟨e1,e2⟩:=dI hw;obtain⟨A',e3,e4⟩:=bT e2;refine tJ.step (DSpec.of hc (r:=rec) ?_) e1 e3 (gg hG hc r (k+1) _ _ _ _ K e4 (by grind[fY]) hK);grind[Io,b0]
    simp_all
   case asl u d'=>
    split at hw
    ·rename_i v h' rec hd;obtain⟨hl,hw⟩:=hw;obtain⟨e1,e2⟩:=dI hw;obtain⟨A',e3,e4⟩:=bT e2;refine tJ.step (DSpec.less hl (DSpec.of hc (r:=rec) ?_)) e1 e3 (gg hG hc r (k+1) _ _ _ _ K e4 (by grind[fY]) hK);grind[Io,b0]
    simp_all
   case slc d'=>
    split at hw
    ·rename_i hk;obtain⟨v,e0,hw⟩:=zF hw;obtain⟨e1,e2⟩:=dI hw;obtain⟨A',e3,e4⟩:=bT e2;refine tJ.step (lJ (d:=⟨b0 P G ops o,o.looksAt ops,dG o.op,dK o.op,0⟩) (ids:=cp F (dG o.op)) rfl (by simp_all) ?_ hg) e1 e3 (gg hG hc r (k+1) _ _ _ _ K e4 (by grind[fY]) hK);grind[b0,qm]
    simp_all
   case rix d'=>
    split at hw
    ·rename_i hk;obtain⟨v,e0,hw⟩:=zT hw;obtain⟨e1,e2⟩:=dI hw;obtain⟨A',e3,e4⟩:=bT e2;refine tJ.step (lJ (d:=⟨b0 P G ops o,o.looksAt ops,dG o.op,dK o.op,0⟩) (ids:=cp F (dG o.op)) rfl (by simp_all) ?_ hg) e1 e3 (gg hG hc r (k+1) _ _ _ _ K e4 (by grind[fY]) hK);grind[b0,qm]
    simp_all
   case rld x d'=>
    split at hw
    ·rename_i hk;obtain⟨v,e0,hw⟩:=zS hw;obtain⟨e1,e2⟩:=dI hw;obtain⟨A',e3,e4⟩:=bT e2;refine tJ.step (lJ (d:=⟨b0 P G ops o,o.looksAt ops,dG o.op,dK o.op,0⟩) (ids:=cp F (dG o.op)) rfl (by simp_all) ?_ hg) e1 e3 (gg hG hc r (k+1) _ _ _ _ K e4 (by grind[fY]) hK);grind[b0,qm]
    simp_all
   case slp ys d'=>
    split at hw
    ·rename_i hk;obtain⟨v,e0,hw⟩:=zE hw;obtain⟨e1,e2⟩:=dI hw;obtain⟨A',e3,e4⟩:=bT e2;refine tJ.step (lJ (d:=⟨b0 P G ops o,o.looksAt ops,dG o.op,dK o.op,0⟩) (ids:=cp F (dG o.op)) rfl (by simp_all) ?_ hg) e1 e3 (gg hG hc r (k+1) _ _ _ _ K e4 (by grind[fY]) hK);grind[b0,qm]
    simp_all
   case rst x xs d'=>
    split at hw
    ·rename_i hk;obtain⟨k1,k2,hw⟩:=hw;obtain⟨hw',e0,hw⟩:=zN hw;split at hw
     ·rename_i v h' rec hd;obtain⟨e1,e2⟩:=dI hw;obtain⟨A',e3,e4⟩:=bT e2;refine tJ.step (nX (d:=⟨b0 P G ops o,o.looksAt ops,dG o.op,dK o.op,0⟩) (ids:=cp F (dG o.op)) rfl ?_ hg) e1 e3 (gg hG hc r (k+1) _ _ _ _ K e4 (by grind[fY]) hK);simp_all[b0,qJ,nR]
     simp_all
    simp_all
   case upd es c d'=>
    split at hw
    ·rename_i hk;obtain⟨k1,k2,hw⟩:=hw;obtain⟨hw',e0,hw⟩:=zd hw;split at hw
     ·rename_i v h' rec hd;obtain⟨e1,e2⟩:=dI hw;obtain⟨A',e3,e4⟩:=bT e2;refine tJ.step (nX (d:=⟨b0 P G ops o,o.looksAt ops,dG o.op,dK o.op,0⟩) (ids:=cp F (dG o.op)) rfl ?_ hg) e1 e3 (gg hG hc r (k+1) _ _ _ _ K e4 (by grind[fY]) hK);simp_all[b0,qJ,nR]
     simp_all
    simp_all
   case apx xs d'=>
    split at hw
    ·rename_i hk;obtain⟨k1,k2,hw⟩:=hw;obtain⟨v0,hw',e0,hw⟩:=BH (abx hw);split at hw
     ·rename_i v h' rec hd;obtain⟨e1,e2⟩:=dI hw;obtain⟨A',e3,e4⟩:=bT e2;refine tJ.step (nX (d:=⟨b0 P G ops o,o.looksAt ops,dG o.op,dK o.op,0⟩) (ids:=cp F (dG o.op)) rfl ?_ hg) e1 e3 (gg hG hc r (k+1) _ _ _ _ K e4 (by grind[fY]) hK);grind[b0,qJ,nR]
     simp_all
    simp_all
   case app d'=>
    split at hw
    ·rename_i hk;obtain⟨k1,k2,hw⟩:=hw;obtain⟨v0,hw',e0,hw⟩:=yV hw;split at hw
     ·rename_i v h' rec hd;obtain⟨e1,e2⟩:=dI hw;obtain⟨A',e3,e4⟩:=bT e2;refine tJ.step (nX (d:=⟨b0 P G ops o,o.looksAt ops,dG o.op,dK o.op,0⟩) (ids:=cp F (dG o.op)) rfl ?_ hg) e1 e3 (gg hG hc r (k+1) _ _ _ _ K e4 (by grind[fY]) hK);grind[b0,qJ,nR]
     simp_all
    simp_all
   case opv v0 hw' d'=>
    split at hw
    ·rename_i hk;obtain⟨k1,k2,e0,hw⟩:=hw;split at hw
     ·rename_i v h' rec hd;obtain⟨e1,e2⟩:=dI hw;obtain⟨A',e3,e4⟩:=bT e2;refine tJ.step (nX (d:=⟨b0 P G ops o,o.looksAt ops,dG o.op,dK o.op,0⟩) (ids:=cp F (dG o.op)) rfl ?_ hg) e1 e3 (gg hG hc r (k+1) _ _ _ _ K e4 (by grind[fY]) hK);grind[b0,qJ,nR]
     simp_all
    simp_all
   case val v d'=>
    split at hw
    ·rename_i hk;obtain⟨e0,hw⟩:=hw;obtain⟨e1,e2⟩:=dI hw;obtain⟨A',e3,e4⟩:=bT e2;refine tJ.step (lJ (d:=⟨b0 P G ops o,o.looksAt ops,dG o.op,dK o.op,0⟩) (ids:=cp F (dG o.op)) rfl (by simp_all) ?_ hg) e1 e3 (gg hG hc r (k+1) _ _ _ _ K e4 (by grind[fY]) hK);grind[b0,qm]
    simp_all
   case elem x d'=>
    split at hw
    ·rename_i hk;obtain⟨⟨xs,i,e0,ex⟩,hw⟩:=x9 (h:=⟨1000000,bR h (cp F (dG o.op)) .nil⟩) hw;obtain⟨e1,e2⟩:=dI hw;obtain⟨A',e3,e4⟩:=bT e2;refine tJ.step (DSpec.less (Le.elem ex) (lJ (d:=⟨b0 P G ops o,o.looksAt ops,dG o.op,dK o.op,0⟩) (ids:=cp F (dG o.op)) rfl (by simp_all) ?_ hg)) e1 e3 (gg hG hc r (k+1) _ _ _ _ K e4 (by grind[fY]) hK);grind[b0,qm]
    simp_all
   case efx same v h' d'=>
    obtain⟨f,args,e1,hw⟩:=ky hw;split at hw
    ·rename_i hb;simp only[ba,bZ,decide_eq_true_eq]at hb;obtain⟨⟨k1,k3⟩,k4⟩:=hb;obtain⟨k2,k5,e2,hw⟩:=hw;have hcl:=jo k2;cases same with
     |true=>
      obtain⟨e3,hw⟩:=dI hw;obtain⟨F',e5,e6⟩:=bT hw;exact tJ.step (DSpec.effS hg e1 k1 (fun id o' hh=>gL h.n hcl id o' (AHeap.get_some.1 hh).1 hh) k3 (GF k5) e2) e3 e5 (gg hG hc r (k+1) _ _ _ _ K e6 (by grind[fY]) hK)
     |false=>
      obtain⟨e3,hw⟩:=dI hw;obtain⟨F',e5,e6⟩:=bT hw;exact tJ.step (DSpec.eff hg e1 k1 (fun id o' hh=>gL h.n hcl id o' (AHeap.get_some.1 hh).1 hh) k3 (pS h.n (by simp_all)) e2) e3 e5 (gg hG hc r (k+1) _ _ _ _ K e6 (by grind[fY]) hK)
    simp_all
   case efd v h' d'=>
    obtain⟨f,args,e1,hw⟩:=ky hw;split at hw
    ·rename_i hk;simp only[ba,bZ,decide_eq_true_eq]at hk;obtain⟨⟨⟨k1,k2⟩,k3⟩,k4⟩:=hk;obtain⟨e2,hw⟩:=hw;obtain⟨e3,e4⟩:=dI hw;obtain⟨A',e5,e6⟩:=bT e4;exact tJ.step (DSpec.eff hg e1 k1 (fun id o' hh=>gL h.n k2 id o' (AHeap.get_some.1 hh).1 hh) k3 (pS h.n k4) e2) e3 e5 (gg hG hc r (k+1) _ _ _ _ K e6 (by grind[fY]) hK)
    simp_all
   case look v d'=>
    split at hw
    ·rename_i hk;obtain⟨e0,hw⟩:=xo hw;obtain⟨e1,e2⟩:=dI hw;obtain⟨A',e3,e4⟩:=bT e2;refine tJ.step (lJ (d:=⟨b0 P G ops o,o.looksAt ops,dG o.op,dK o.op,0⟩) (ids:=cp F (dG o.op)) rfl (by simp_all) ?_ hg) e1 e3 (gg hG hc r (k+1) _ _ _ _ K e4 (by grind[fY]) hK);grind[b0,qm]
    simp_all
   case pk w d'=>
    split at hw
    ·rename_i hk;obtain⟨v,e0,hw⟩:=C5 (P:=P) (h:=⟨1000000,bR h (cp F (dG o.op)) .nil⟩) hw;obtain⟨e1,e2⟩:=dI hw;obtain⟨A',e3,e4⟩:=bT e2;refine tJ.step (lJ (d:=⟨b0 P G ops o,o.looksAt ops,dG o.op,dK o.op,0⟩) (ids:=cp F (dG o.op)) rfl (by simp_all) ?_ hg) e1 e3 (gg hG hc r (k+1) _ _ _ _ K e4 (by grind[fY]) hK);grind[b0,qm]
    simp_all
   case pure v d'=>
    obtain⟨f,args,e1,hw⟩:=ky hw;split at hw
    ·rename_i hk;simp only[aB,bZ,decide_eq_true_eq]at hk;obtain⟨e2,hw⟩:=hw;obtain⟨e3,e4⟩:=dI hw;obtain⟨A',e5,e6⟩:=bT e4;exact tJ.step (DSpec.pure hG hg e1 hk.1 hk.2 e2) e3 e5 (gg hG hc r (k+1) _ _ _ _ K e6 (by grind[fY]) hK)
    simp_all
   case fsl k0 ts t ys d'=>
    obtain⟨v0,h1,e1,hw⟩:=yV hw;split at hw
    ·rename_i ht;obtain⟨hl,hw⟩:=hw;obtain⟨e3,e4⟩:=dI hw;obtain⟨A',e5,e6⟩:=bT e4;exact tJ.step (LU hG hg e1 ht hl rfl) e3 e5 (gg hG hc r (k+1) _ _ _ _ K e6 (by grind[fY]) hK)
    simp_all
  ·obtain⟨e1,e2⟩:=dI hw;obtain⟨A',e3,e4⟩:=bT e2;refine tJ.step (v:=gF) (h1:=h) (DSpec.of hc (r:=Ev.rd []) ?_) e1 e3 (gg hG hc r (k+1) _ _ _ _ K e4 (by grind[fY]) hK);grind[b0,FU]
theorem sn{b:Option Nat}{ts:List Nat}{vs:List AV}{os:List AObj}(h1:pO s.tmps ts=some vs)(h2:eR s.heap s.heap.n 0=some os):ca G b s (UU s.tmps.n ts (vs,os)):=by
 obtain⟨k1,k2⟩:=eB _ _ _ h2;exact ca.sub ⟨rfl,fun t v h=>A7 h1 t v (vQ h),by grind[UU,aw],fun id o hh=>by simpa using k2 id o (oJ hh)⟩
theorem MW(hG:jc G){b:Code}{X:Type}{n:Nat}{ts:List Nat}{S:X->List AV×List AObj}{I:X->Prop}{ms:X->Nat}{K:AExit->D->St->Prop}{Φ:AExit->St->Prop}
  (h3:∀x,I x->∀Φ':AExit->St->Prop,(∀e d s,s.tmps.n<=60000->zR m n ts S I ms x K e d s->Φ' e s)->ar P G (some m) b (UU n ts (S x)) Φ')
  (hK:∀e d s,s.tmps.n<=60000->K e d s->Φ e s)(x0:X)(h2:I x0):ar P G (some m) (.loop b) (UU n ts (S x0)) Φ:=by
 refine ar.loop (fun k s1=>∃x,s1.tmps.n=n/\ca G (some m) s1 (UU n ts (S x))/\I x/\ms x=k) (ms x0) ⟨x0,rfl,ca.refl _,h2,rfl⟩ ?_
 rintro k s1 ⟨x,e2,hW1,hx,rfl⟩
 refine ar.weak hW1 (h3 x hx _ fun e d s2 hn2 he=>?_);cases e with
 |normal=>
  simp only[zR]at he;refine tg hG hn2 he fun d s3 e3 hW3 he=>?_
  split at he
  ·rename_i vs' os' hnn hv' ho';simp only[aB,decide_eq_true_eq]at hnn;obtain⟨y,y1,y2,y3⟩:=he;refine⟨ms y,y2,y,by omega,hW3.trans ?_,y1,rfl⟩;grind[sn]
  simp_all
 |exit id=>exact hK _ d s2 hn2 he
 |ret=>exact hK _ d s2 hn2 he
theorem W7(hm:P.follows .mixedOrders=true)(hG:jc G)(hc:cL P G call):∀(c:Code)(d:D)(s:St)(K:AExit->D->St->Prop)(Φ:AExit->St->Prop),(WP P G call m c).run d s K->(∀e d s,s.tmps.n<=60000->K e d s->Φ e s)->ar P G (some m) c s Φ:=by
 intro c;induction c with
 |skip=>exact fun d s K Φ h hK=>ar.bounded fun hn=>ar.skip (hK _ d s hn h)
 |label l=>exact fun d s K Φ h hK=>ar.bounded fun hn=>ar.label (hK _ d s hn h)
 |exit id=>exact fun d s K Φ h hK=>ar.bounded fun hn=>ar.exit (hK _ d s hn h)
 |ret=>exact fun d s K Φ h hK=>ar.bounded fun hn=>ar.ret (hK _ d s hn h)
 |scope b ih=>exact fun d s K Φ h hK=>ar.scope (ih d s K Φ h hK)
 | seq a b iha ihb=>
  intro d s K Φ h hK;have plain:∀d s,(WP P G call m a).run d s (Xb (WP P G call m b) K)->ar P G (some m) (.seq a b) s Φ:=fun d s h=>by
   refine ar.seq (iha d s _ _ h fun e d s hn he=>?_);cases e with
   |normal=>exact ihb d s K Φ he hK
   |exit id=>exact hK _ d s hn he
   |ret=>exact hK _ d s hn he
  cases d
  case join X ts S I d1 d2=>
   obtain⟨h1,h2⟩:=h;refine ar.seq (iha d1 s _ _ h1 fun e d s' hn he=>?_);cases e with
   |normal=>
    simp only[WE]at he;refine ar.bounded fun hn=>?_
    refine tg hG hn he fun d s3 e3 hW3 he=>ar.weak hW3 ?_
    split at he
    ·rename_i vs' os' hnn hv' ho';simp only[aB,decide_eq_true_eq]at hnn;obtain⟨y,y1,y3⟩:=he;have hw:=sn (G:=G) (b:=some m) hv' ho';grind[ar.weak]
    simp_all
   |exit id=>exact hK _ d s' hn he
   |ret=>exact hK _ d s' hn he
  case inn d=>exact plain d s h
  all_goals exact plain _ s h
 |block id b ih=>
  intro d s K Φ h hK;refine ar.block (ih d s _ _ h fun e d s hn he=>?_);cases e with
  |normal=>exact hK _ d s hn he
  |ret=>exact hK _ d s hn he
  |exit k=>grind[Zr,aB,Wf]
 | region id ops draw=>
  intro d s K Φ h hK;refine ar.bounded fun hn=>?_
  cases draw with
  |false=>exact ar.region (gM hG hc _ d s _ h fun d s' hn' he=>hK .normal d s' hn' he)
  |true=>
   refine tg hG hn h fun d s' e1 hW h=>ar.weak hW ?_
   grind[ar.draw,gg]
 | cond x a b iha ihb=>
  intro d s K Φ h hK;refine ar.bounded fun hn=>?_
  refine tg hG hn h fun d s' _ hW h=>ar.weak hW ?_
  cases hv:(cE G x).run s'.tmps with
  |none=>rw[hv]at h;exact h.elim
  | some v=>
   rw[hv]at h;cases v<;>simp only[WPc]at h
   case bool t=>
    cases d<;>simp only[]at h
    case go n d'=>grind[ar.cond]
    case tt d'=>grind[JJ]
    case ff d'=>grind[JK]
    case br d1 d2=>exact ar.cond hv (fun k=>iha _ s' K Φ (h.1 k) hK) (fun k=>ihb _ s' K Φ (h.2 k) hK)
 | loop b ih=>
  intro d s K Φ h hK;refine ar.bounded fun hn=>?_
  refine tg hG hn h fun d s' e1 hW h=>ar.weak hW ?_
  have hn':s'.tmps.n<=60000:=by omega
  cases d<;>simp only[WB]at h
  case loop X ts S I ms x0 db=>
   split at h
   ·rename_i vs os hv ho;obtain⟨h1,h2,h3⟩:=h;refine ar.weak (sn hv ho) ?_;rw[h1];exact MW hG (fun x hx Φ' hΦ=>ih (db x) _ _ _ (h3 x hx) hΦ) hK x0 h2
   simp_all
  case un n db=>
   refine ar.loop (fun k s1=>∃d1,(WP P G call m b).run d1 s1 (unK (WP P G call m b) K k)) n ⟨db,h⟩ ?_
   rintro k s1 ⟨d1,h1⟩
   refine ih d1 _ _ _ h1 fun e d2 s2 h2 hn2=>?_
   cases k<;>cases e<;>first|exact⟨_,Nat.lt_succ_self _,_,hn2⟩|exact hn2.elim|exact hK _ _ _ h2 hn2
  case loop2 X Y ts S S' I I' ms ms' x0 db db'=>
   split at h
   ·rename_i vs os hv ho;obtain⟨h1,h2,h3,h4⟩:=h;refine ar.weak (sn hv ho) ?_;rw[h1];refine MW (S:=Sum.elim S S') (I:=Sum.elim I I') (ms:=Sum.elim ms ms') hG (fun x hx Φ' hΦ=>?_) hK x0 h2;grind
   simp_all
 |_=>intro d s K Φ h hK;exact h.elim
theorem FI{hp:AHeap}{fn:Func}{Ψ:AV->AHeap->Prop}(pol:Nat)(hf:P.funcs[f]?=some fn)(hN:(fn.name== "runtime.NumGoroutine")=false)(hb:fn.body=some c)(hn:Nat.ble args.length fn.ntmps=true/\Nat.ble fn.ntmps 60000=true)
  (h:ar P G (some hp.n) c ⟨⟨fn.ntmps,ig fn.ntmps args 0 .nil⟩,hp⟩ fun e s=>(∀id,e≠.exit id)/\∃s',ca G (some hp.n) s s'/\∃v,fp (fD P fn.results.toList s'.tmps s'.heap)=some v/\Ψ (gk pol hp.n v s'.heap).1 (gk pol hp.n v s'.heap).2):aN P G f args hp Ψ:=by
 intro pl M w vs hg hr hv;simp only[ba,decide_eq_true_eq]at hn;left;simp only[beq_eq_false_iff_ne,ne_eq]at hN;refine⟨by simp_all[callFunc],calls_of_wp hf hb ?_⟩;have hs0:SNow G fn.ntmps hp pl M w ⟨⟨fn.ntmps,ig fn.ntmps args 0 .nil⟩,hp⟩ {tmps:=vs++Array.replicate (fn.ntmps-vs.size) undef,defers:=[]} w:=⟨⟨pl,M,hg,hr,zp hv hn.1 hn.2,dQ.refl _ _ _ _,af _⟩,rfl,hn.2⟩
 have hbase:Wh (some hp.n) hp pl:=fun m hb=>by cases hb;exact⟨rfl,fun id p hq=>hr.dom id p hq⟩
 refine h fn.ntmps hp pl M w _ w _ hbase hs0 fun e s a1 w1 h1 h2=>?_
 obtain⟨hne,s',hW,v,hres,hΨ⟩:=h1;have h2:=hW _ _ _ _ _ _ _ hbase h2;obtain⟨pl1,M1,g1,g2,g3,g4,g5⟩:=h2.ex;obtain⟨cv,k1,k2⟩:=td g2 g3 hres;obtain⟨pl2,M2,q1,q2,q3,q4⟩:=vW pol hr g2 k2 g4 g5 (rfl:gk pol hp.n v s'.heap=((gk pol hp.n v s'.heap).1,(gk pol hp.n v s'.heap).2));have fin:a1.defers=[]/\∃u,(results fn a1.tmps).run P w1=.ok u w1/\∃cv v h',Ending.returned u=.returned cv/\Ψ v h'/\iD pl M hp w v h' cv w1:=⟨g3.defers,cv,k1,cv,_,_,rfl,hΨ,pl2,M2,q1,q2,q3,q4⟩
 cases e with
 |exit id=>simp_all
 |normal=>exact fin
 |ret=>exact fin
theorem VA(hG:jc G){res:List ResultVar}{Ψ:AV->AHeap->Prop}{e:AExit}{d:D}(hn:s.tmps.n<=60000)(h:E9 P m res Ψ e d s):
  (∀id,e≠.exit id)/\∃s',ca G (some m) s s'/\∃v,fp (fD P res s'.tmps s'.heap)=some v/\Ψ v s'.heap:=by
 have key:pre m d s (fun _ s=>match fp (fD P res s.tmps s.heap)with|some u=>Ψ u s.heap|none=>False)->∃s',ca G (some m) s s'/\∃v,fp (fD P res s'.tmps s'.heap)=some v/\Ψ v s'.heap:=by
  intro h;refine tg hG hn h fun d' s' _ hW h=>⟨s',hW,?_⟩
  grind
 cases e with
 |exit id=>exact h.elim
 |normal=>exact⟨fun id h=>(by grind),key h⟩
 |ret=>exact⟨fun id h=>(by grind),key h⟩
theorem aN.walk{hp:AHeap}{fn:Func}{Ψ:AV->AHeap->Prop}{W:Prop}(pol:Nat)(hm:P.follows .mixedOrders =true)(hG:jc G)(hc:cL P G call)(hf:P.funcs[f]?=some fn)(hN:(fn.name== "runtime.NumGoroutine")=false)(hb:fn.body=some c)
  (hn:Nat.ble args.length fn.ntmps=true/\Nat.ble fn.ntmps 60000=true)(d:D)(p:W)
  (e:W=(WP P G call hp.n c).run d ⟨⟨fn.ntmps,ig fn.ntmps args 0 .nil⟩,hp⟩ (E9 P hp.n fn.results.toList fun v h=>Ψ (gk pol hp.n v h).1 (gk pol hp.n v h).2)):aN P G f args hp Ψ:=
 FI pol hf hN hb hn (W7 hm hG hc c d _ _ _ (e▸p) fun _ _ _ hn h=>VA hG hn h)
theorem bY.walk{fn:Func}{W:Prop}(hm:P.follows .mixedOrders =true)(hG:jc G)(hc:cL P G call)(ht:az args=0)(hv:v.top=0)(hf:P.funcs[f]?=some fn)(hN:(fn.name== "runtime.NumGoroutine")=false)(hb:fn.body=some c)
  (hn:Nat.ble args.length fn.ntmps=true/\Nat.ble fn.ntmps 60000=true)(d:D)(p:W)
  (e:W=(WP P G call 0 c).run d ⟨⟨fn.ntmps,ig fn.ntmps args 0 .nil⟩,AHeap.none⟩ (E9 P 0 fn.results.toList fun u h=>Le v (gk 0 0 u h).1)):bY P G f args v:=
 px hG ht hv (aN.less (aN.walk (Ψ:=fun v1 _=>Le v v1) (call:=call) 0 hm hG hc hf hN hb hn d p e) fun v1 h' e=>⟨v,e,rfl⟩)
end
abbrev By(x v:Bool):Prop:=x=v
theorem et{a b:Prop}(h:a)(k:b):a/\b:=⟨h,k⟩
theorem dY{b:Bool}(h:b=false):aj b=true:=by simp_all
theorem c9{b:Bool}(h:b=true):aj b=false:=by simp_all
theorem TL{u v:AV}(h:u=v):Le u v:=by grind[Le.refl]
theorem Le.int{k:IntKind}{a b:Int}(h:a=b):Le (.int k a) (.int k b):=by grind[Le.refl]
theorem ot{k:IntKind}{a b:Int}(h:b=a):Le (.int k a) (.int k b):=by grind[Le.refl]
theorem Le.bool{a b:Bool}(h:a=b):Le (.bool a) (.bool b):=by grind[Le.refl]
theorem Le.str{a b:List UInt8}(h:a=b):Le (.str a) (.str b):=by grind[Le.refl]
theorem Le.lsn{xs:List AV}(h:xs=[]):Le (.ls xs) .nils:=by grind[Le.nils]
theorem Le.lsp{xs ys:List AV}{t:Bool}(h:xs=ys)(h0:az ys=0):Le (.ls xs) (.ps ys t):=by grind[Le.ps]
theorem Ao{sz b n:Nat}{z:AV}{h:AHeap}(hs:small n b=true):fG (pD sz b z h (some (.int .i64 (.ofNat n))) (some (.int .i64 (.ofNat n))))=some (.val (.slice h.n 0 0 n (some n)) (h.push (.row sz false 0 (List.replicate n z)))):=by grind[Nat.ble_eq_true_of_le,pD,fG]
theorem Bo{s id ep n sz:Nat}{op:Bool}{cap:Option Nat}{h:AHeap}{xs ys:List AV}(hg:h.get id=some (.row sz op ep xs))(hs:Nat.beq s sz=true)(hy:ys.length=n)(hx:xs.length=n)(hf:eX sz ys=true):
  fG (vB s h (some (.slice id ep 0 n cap)) (some (.ls ys)))=some (.val (.int .i64 (.ofNat n)) (h.put id (.row sz op ep ys))):=by
 have e1:ys.take n=ys:=Cm (by omega);have e2:cQ xs 0 ys=ys:=by grind[cQ]
 simp_all[vB,lU,lW,Nv,fG]
theorem Q6{α:Type}{f:α->AV}{l:List α}{z:AV}{i:Nat}(h:i=l.length):jP (l.map f++[z]) i=some z:=by rw[pB,oD (by simp_all),cJ,show i-l.length=0 by omega];rfl
theorem Qq{α:Type}{f g:α->AV}(e:∀x,f x=g x){l:List α}{z:AV}{i:Nat}{w:α}(h:i=l.length):(l.map f++[z]).set i (g w)=(l++[w]).map f:=by simp_all
theorem Xt{u v:AV}(h:Le u v)(hu:u.cells=[u])(hv:v.cells=[v]):∀(j:Nat)(y:AV),u.cells[j]?=some y->∃x:AV,v.cells[j]?=some x/\Le y x:=by grind
theorem ct{xs ys:List AV}(h:xs=ys):Le (.ls xs) (.ls ys):=by grind[Le.refl]
theorem bV{us vs:List AV}(h:Les us vs)(hs:us.all dW=true):Le (.agg us) (.agg vs):=Le.agg h fun u hu=>kX.1 hs u hu
theorem XF:Nat.mx 0 0=0:=rfl
theorem aW{α:Type}{f:α->AV}(h:∀x,(f x).top=0):∀(l:List α),az (l.map f)=0
 |[]=>rfl
 |x::r=>by simp only[eg,az,h x,aW h r,XF]
theorem ap{a b:Int}(h:aL a b=true):a<b:=by grind[wA]
theorem aG{a b:Int}(h:aL a b=false):b<=a:=by grind[wA]
theorem nF{a b:Int}(h:a<b):aL a b=true:=by grind[wA]
theorem jI{a b:Int}(h:b<=a):aL a b=false:=by grind[wA]
theorem l8{a b:Int}:aa a b=decide (a=b):=by
 cases a with
 |ofNat a=>cases b with
  |ofNat b=>grind[aa,aB]
  |negSucc b=>exact(decide_eq_false (fun h=>by grind)).symm
 |negSucc a=>cases b with
  |ofNat b=>exact(decide_eq_false (fun h=>by grind)).symm
  |negSucc b=>grind[aa,aB]
theorem i9{a b:Int}(h:aa a b=true):a=b:=by grind[l8]
theorem IU{a b:Int}(h:aa a b=false):a≠b:=by grind[l8]
theorem ug{x:Int}(h1: -(2^63)<=x)(h2:x<2^63):IntKind.i64.wrap x=x:=by grind[IntKind.wrap,IntKind.bits,IntKind.signed]
theorem Le.wr{x:Int}(h: -(2^63)<=x/\x<2^63):Le (.int .i64 x) (.int .i64 (IntKind.i64.wrap x)):=by grind[ug,Le.refl]
def gD{α:Type}[Inhabited α](l:List α)(i:Nat):α:=l.getD i default
theorem bd{α:Type}[Inhabited α]{l:List α}{i:Nat}(enc:α->AV)(h:i<l.length):jP (l.map enc) i=some (enc (gD l i)):=by grind[pB,gD]
theorem Av{α:Type}[Inhabited α]{l:List α}{i:Nat}(h:i<l.length):jP l i=some (gD l i):=by grind[pB,gD]
def oV(b:UInt8):AV:=.int .u8 (.ofNat b.toNat)
theorem WN(b:UInt8):(oV b).top=0:=rfl
theorem V9{s:List UInt8}{H:AHeap}(h:s.length<=2^40):bA H (lK (some (.str s)))=some (.val (.ps (s.map oV) false) H):=by
 have e1:Nat.ble s.length (2^40)=true:=uf h;simp only[lK,e1,bA];rfl
theorem Xy{s:List UInt8}{n:Nat}{k:IntKind}{H:AHeap}(h2:n<=s.length):bA H (mW (some (.str s)) none (some (.int k (.ofNat n))))=some (.val (.str (s.take n)) H):=by grind[Nat.ble_eq_true_of_le,mW,jt,gj,bA]
theorem Xv{s:List UInt8}{l:Nat}{k:IntKind}{H:AHeap}(h1:l<=s.length):bA H (mW (some (.str s)) (some (.int k (.ofNat l))) none)=some (.val (.str (s.drop l)) H):=by simp_all[uf,mW,jt,gj,bA]
theorem gc{α:Type}[Inhabited α]{l:List α}{i:Nat}(h:i<l.length):gD l i∈l:=by grind[gD]
theorem BS{x:Int}(h:0<=x):Le (.int .i64 (Int.ofNat x.toNat)) (.int .i64 x):=by grind[Le.refl]
theorem Le.len{α:Type}{f:α->AV}{l:List α}:Le (.int .i64 (Int.ofNat l.length)) (.int .i64 (Int.ofNat (l.map f).length)):=by grind[Le.refl]
theorem bS:(∀b:Bool,(b&&true)=b)/\(∀b:Bool,(true&&b)=b)/\(∀b:Bool,(b&&false)=false)/\(∀b:Bool,(false&&b)=false)/\(∀b:Bool,(b||true)=true)/\(∀b:Bool,(true||b)=true)/\
  (∀b:Bool,(b||false)=b)/\(∀b:Bool,(false||b)=b)/\(!true)=false/\(!false)=true:=by grind
theorem aS{α:Type}{p:α->Bool}:List.all [] p=true/\∀x r,List.all (x::r) p=(p x&&List.all r p):=⟨rfl,fun _ _=>rfl⟩
section
variable{α A:Type}{l r t:List α}{i:Nat}{w:α}{enc:α->AV}{J:List α->A->Prop}{a:A}
theorem NV(h:l.drop i=w::t):i<l.length:=by
 have:=congrArg List.length h;grind
theorem eu(h:l.drop i=r)(hr:r=[]):aL (Int.ofNat i) (Int.ofNat l.length)=false:=by
 subst hr;refine VK ?_;simp_all
theorem fX(h:l.drop i=r)(hr:r=w::t):aL (Int.ofNat i) (Int.ofNat l.length)=true:=by grind[XN,NV]
theorem ei(h:l.drop i=r)(hr:r=w::t):jP (l.map enc) i=some (enc w):=by
 subst hr;rw[L3,pB];have:(l.drop i)[0]?=some w:=by simp_all
 grind
theorem bf(h:l.drop i=r)(hr:r=w::t):l.drop (i+1)=t:=by
 subst hr;have:=congrArg (List.drop 1) h;grind[List.drop_drop]
theorem Qy(h:l.drop i=r)(hr:r=w::t)(hb:l.length<2^62):IntKind.i64.wrap (Int.ofNat i+1)=Int.ofNat (i+1):=by subst hr;have:=NV h;grind[Nu]
theorem ed(hr:r=w::t):t.length<r.length:=by simp_all
theorem gJ(hr:r=[])(h:J r a):J [] a:=hr▸h
theorem cw(hr:r=w::t)(h:J r a):J (w::t) a:=hr▸h
theorem iT(h:l.drop i=r)(hr:r=w::t):t.length+1<=l.length:=by
 subst hr;have:=congrArg List.length h;grind
theorem aA(h:l.drop i=r)(hr:r=w::t):w∈l:=by grind[List.mem_of_mem_drop]
end
section
def cj{V:Type}(f:V->AV):List (Int×V)->Nat->List AEnt
 |[],_=>[]
 |(k,v)::r,i=>⟨.int .i64 k,f v,i⟩::cj f r (i+1)
def ic{V:Type}(k:Int):List (Int×V)->Option V
 |[]=>none
 |(j,v)::r=>match aa k j with|true=>some v|false=>ic k r
def lg{V:Type}(k:Int)(v:V):List (Int×V)->List (Int×V)
 |[]=>[(k,v)]
 |(j,u)::r=>match aa k j with|true=>(j,v)::r|false=>(j,u)::lg k v r
variable{V:Type}{f:V->AV}
theorem uJ(k:Int):∀(l:List (Int×V))(i:Nat),bw false 1 [(0,1)] (.int .i64 k) (cj f l i) i=some (match ic k l with|none=>none|some v=>some (i+(l.takeWhile fun p=>!(aa k p.1)).length,⟨.int .i64 k,f v,i+(l.takeWhile fun p=>!(aa k p.1)).length⟩))
 |[],i=>rfl
 | (j,v)::r,i=>by
  simp only[cj,bw,rg,KA,lk,ic];cases h:aa k j with
  |true=>grind[i9,nI,List.takeWhile]
  |false=>
   simp only[nI,uJ k r (i+1),List.takeWhile,h,Cl];grind
theorem Au(z:Option AV)(k:Int)(l:List (Int×V)):eS z false (bw false 1 [(0,1)] (.int .i64 k) (cj f l 0) 0)=match ic k l with|none=>z|some v=>some (f v):=by
 rw[uJ];cases ic k l with
 |none=>cases z<;>rfl
 |some v=>rfl
theorem FW(l r:List (Int×V)):∀(i:Nat),cj f (l++r) i=cj f l i++cj f r (i+l.length):=by
 induction l with
 |nil=>intro i;rfl
 |cons x l ih=>
  intro i;obtain⟨j,v⟩:=x;simp only[zx,cj,ih,cO,Ci,true_and,List.append_cancel_left_eq];grind
theorem wY{k:Int}{v:V}:∀{l:List (Int×V)},ic k l=none->lg k v l=l++[(k,v)]
 |[],_=>rfl
 |(j,u)::r,h=>by
  simp only[ic]at h;cases q:aa k j with
  |true=>grind
  |false=>rw[q]at h;simp only[lg,q,zx,wY h]
theorem Gu{k:Int}{v u:V}:∀{l:List (Int×V)},ic k l=some u->(lg k v l).length=l.length
 |(j,w)::r,h=>by
  simp only[ic]at h;cases q:aa k j with
  |true=>grind[lg]
  |false=>rw[q]at h;simp only[lg,q,cO,Gu h]
theorem Dt{k:Int}{v u:V}:∀{l:List (Int×V)}(i:Nat),ic k l=some u->
  (cj f l i).set (l.takeWhile fun p=>!(aa k p.1)).length ⟨.int .i64 k,f v,i+(l.takeWhile fun p=>!(aa k p.1)).length⟩=cj f (lg k v l) i
 | (j,w)::r,i,h=>by
  simp only[ic]at h;cases q:aa k j with
  |true=>grind[i9,cj,lg,List.takeWhile]
  |false=>
   rw[q]at h;simp only[cj,lg,List.takeWhile,q,Cl,cO,List.set_cons_succ,Ci,true_and];rw[<-Dt (i+1) h];congr 2;all_goals (first|rfl|omega)
theorem CF(k:Int)(v:V)(l:List (Int×V)):qt (cj f l 0) l.length (.int .i64 k) (f v) (bw false 1 [(0,1)] (.int .i64 k) (cj f l 0) 0)=some (cj f (lg k v l) 0,(lg k v l).length):=by
 rw[uJ];cases h:ic k l with
 |none=>grind[qt,wY,FW,cj]
 |some u=>
  have:=Dt (f:=f) (v:=v) 0 h;grind[qt,kN,jf,lk,bc,Gu]
theorem aP(hf:∀v,(f v).top=0):∀(l:List (Int×V))(i:Nat),aO (cj f l i)=0
 |[],_=>rfl
 |(j,v)::r,i=>by simp only[cj,aO,AV.top,hf v,aP hf r,XF]
end
theorem PS{sz ep n:Nat}{op:Bool}{xs:List AV}(h:az xs=0):Nat.ble (AObj.row sz op ep xs).top n=true:=by simp_all[AObj.top]
theorem XJ{c n:Nat}{es:List AEnt}(h:aO es=0):Nat.ble (AObj.map es c).top n=true:=by simp_all[AObj.top]
theorem ku{α:Type}{f:α->AV}{l:List α}{i:Nat}{w:α}:(l.map f).set i (f w)=(l.set i w).map f:=by simp_all
theorem Ed{α:Type}{f g:α->AV}(e:∀x,f x=g x){l:List α}{i:Nat}{w:α}:(l.map f).set i (g w)=(l.set i w).map f:=by simp_all
theorem RR(n:Nat):(Int.ofNat n).fdiv (2^min 1 IntKind.u64.bits)=Int.ofNat (n/2):=by
 have e:(2:Int)^min 1 IntKind.u64.bits=2:=rfl;grind
theorem gY{α:Type}{f:α->AV}{sz:Nat}(h:∀x,(Nat.beq (f x).cells.length sz&&fh (f x))=true):∀(l:List α),eX sz (l.map f)=true
 |[]=>rfl
 |x::r=>by rw[eg,eX,h,gY h r];rfl
theorem cT{α:Type}{f:α->AV}{l ws:List α}:l.map f++ws.map f=(l++ws).map f:=by simp
theorem CM{α:Type}{f:α->AV}{l:List α}{n:Nat}:((l.map f).drop 0).take n=(l.take n).map f:=by simp_all
theorem Ej{α:Type}{f:α->AV}{l:List α}{n:Nat}(h:l.length=n):((l.map f).drop 0).take n=l.map f:=by grind[List.length_map]
theorem TI{xs ys:List AV}{t:Bool}(h:ys=xs):Le (.ps ys false) (.ps xs t):=h▸Le.loose xs t
theorem Wn{xs:List AV}{n:Nat}(h:xs.length=n):(xs.drop 0).take n=xs:=by grind
theorem yL{α:Type}{f g:α->AV}{l ws:List α}(e:∀x,f x=g x):l.map f++ws.map g=(l++ws).map f:=by simp_all
theorem VW{α:Type}{f g:α->AV}{ws:List α}(e:∀x,f x=g x):ws.map g=ws.map f:=by simp_all
theorem sW{α:Type}[Inhabited α]{l:List α}{i:Nat}(f:α->AV){g:α->AV}(e:∀x,f x=g x)(h:i<l.length):jP (l.map f) i=some (g (gD l i)):=by grind[bd]
theorem A4{α:Type}{f:α->AV}{s:Nat}(h:∀x,Nat.beq (f x).cells.length s=true):∀(l:List α),pM s (l.map f)=true
 |[]=>rfl
 |x::_=>h x
theorem Jg{α:Type}{f:α->AV}{l:List α}{h k:Nat}:((l.map f).take h).drop k=((l.take h).drop k).map f:=by simp_all
theorem Zc{α:Type}{f:α->AV}{l:List α}{k:Nat}:((l.map f).take (l.map f).length).drop k=(l.drop k).map f:=by rw[List.take_length,List.map_drop]
theorem iO{a b:Bool}(ha:a=true)(hb:b=true):(a&&b)=true:=by simp_all
theorem cn{x:Int}{n:Nat}(h:x=Int.ofNat n/\n<2^62):Le (.int .i64 (Int.ofNat n)) (.int .i64 (IntKind.i64.wrap x)):=by grind[ug,Le.refl]
theorem JW{x:Int}{n:Nat}(h:x=Int.ofNat n/\n<2^62):Le (.int .u64 (Int.ofNat n)) (.int .u64 (IntKind.u64.wrap x)):=by grind[IntKind.wrap,IntKind.bits,Le.refl]
abbrev au:=List UInt8
structure PWord where
 text:au
 act:Int
 item:Int
 at_:Int
 deriving Inhabited
inductive TUnit where
 |mk (act item n kind:Int) (label:au) (head words:List PWord) (kids:List TUnit)
 deriving Inhabited
namespace TUnit
def act:TUnit->Int|⟨a,_,_,_,_,_,_,_⟩=>a
def item:TUnit->Int|⟨_,a,_,_,_,_,_,_⟩=>a
def n:TUnit->Int|⟨_,_,a,_,_,_,_,_⟩=>a
def kind:TUnit->Int|⟨_,_,_,a,_,_,_,_⟩=>a
def label:TUnit->au|⟨_,_,_,_,a,_,_,_⟩=>a
def head:TUnit->List PWord|⟨_,_,_,_,_,a,_,_⟩=>a
def words:TUnit->List PWord|⟨_,_,_,_,_,_,a,_⟩=>a
def kids:TUnit->List TUnit|⟨_,_,_,_,_,_,_,a⟩=>a
end TUnit
structure PStep where
 kind:Int
 label:au
 deriving Inhabited
structure PStart where
 kind:Int
 day:Int
 event:au
 deriving Inhabited
inductive PItem where
 |mk (kind:Int) (at_ to:List PStep) (where_ nth_:Int) (unit:TUnit) (old new:List au) (label for_:au) (start:PStart) (act item day:Int) (event:au) (by_:List PItem)
 deriving Inhabited
namespace PItem
def kind:PItem->Int|⟨a,_,_,_,_,_,_,_,_,_,_,_,_,_,_,_⟩=>a
def at_:PItem->List PStep|⟨_,a,_,_,_,_,_,_,_,_,_,_,_,_,_,_⟩=>a
def to:PItem->List PStep|⟨_,_,a,_,_,_,_,_,_,_,_,_,_,_,_,_⟩=>a
def where_:PItem->Int|⟨_,_,_,a,_,_,_,_,_,_,_,_,_,_,_,_⟩=>a
def nth_:PItem->Int|⟨_,_,_,_,a,_,_,_,_,_,_,_,_,_,_,_⟩=>a
def unit:PItem->TUnit|⟨_,_,_,_,_,a,_,_,_,_,_,_,_,_,_,_⟩=>a
def old:PItem->List au|⟨_,_,_,_,_,_,a,_,_,_,_,_,_,_,_,_⟩=>a
def new:PItem->List au|⟨_,_,_,_,_,_,_,a,_,_,_,_,_,_,_,_⟩=>a
def label:PItem->au|⟨_,_,_,_,_,_,_,_,a,_,_,_,_,_,_,_⟩=>a
def for_:PItem->au|⟨_,_,_,_,_,_,_,_,_,a,_,_,_,_,_,_⟩=>a
def start:PItem->PStart|⟨_,_,_,_,_,_,_,_,_,_,a,_,_,_,_,_⟩=>a
def act:PItem->Int|⟨_,_,_,_,_,_,_,_,_,_,_,a,_,_,_,_⟩=>a
def item:PItem->Int|⟨_,_,_,_,_,_,_,_,_,_,_,_,a,_,_,_⟩=>a
def day:PItem->Int|⟨_,_,_,_,_,_,_,_,_,_,_,_,_,a,_,_⟩=>a
def event:PItem->au|⟨_,_,_,_,_,_,_,_,_,_,_,_,_,_,a,_⟩=>a
def by_:PItem->List PItem|⟨_,_,_,_,_,_,_,_,_,_,_,_,_,_,_,a⟩=>a
end PItem
structure PAct where
 number:Int
 title:au
 day:Int
 start:PStart
 items:List PItem
 deriving Inhabited
structure PGaz where
 number:Int
 day:Int
 prior:au
 acts:List PAct
 deriving Inhabited
structure PDeed where
 act:Int
 item:Int
 day:Int
 it:PItem
 deriving Inhabited
structure PSpan where
 from_:Int
 to:Int
 deriving Inhabited
structure PFail where
 act:Int
 item:Int
 why:Int
 deriving Inhabited
noncomputable section
def nP(s:au):AV:=.str s
def bM(n:Int):AV:=.int .i64 n
def aQ(w:PWord):AV:=.agg [.str w.text,.int .i64 w.act,.int .i64 w.item,.int .i64 w.at_]
mutual
def Bu:TUnit->List AV
 |⟨a,i,n,k,l,h,w,ks⟩=>[.int .i64 a,.int .i64 i,.int .i64 n,.int .i64 k,.str l,.ls (h.map aQ),.ls (w.map aQ),.ls (Iz ks)]
def Iz:List TUnit->List AV
 |[]=>[]
 |u::r=>.agg (Bu u)::Iz r
end
def aY(u:TUnit):AV:=.agg (Bu u)
def aK(s:PStep):AV:=.agg [.int .i64 s.kind,.str s.label]
def BA(s:PStart):List AV:=[.int .i64 s.kind,.int .i64 s.day,.str s.event]
def aC(s:PStart):AV:=.agg (BA s)
mutual
def KP:PItem->List AV
 |⟨k,a,t,w,nn,u,o,n,lb,fo,st,ac,it,dy,ev,by_⟩=>[.int .i64 k,.ls (a.map aK),.ls (t.map aK),.int .i64 w,.int .i64 nn]++Bu u++[.ls (o.map nP),.ls (n.map nP),.str lb,.str fo]++BA st++[.int .i64 ac,.int .i64 it,.int .i64 dy,.str ev,.ls (Ik by_)]
def Ik:List PItem->List AV
 |[]=>[]
 |u::r=>.agg (KP u)::Ik r
end
def OS(x:PItem):AV:=.agg (KP x)
def cU(u:TUnit):List AV:=[.int .i64 u.act,.int .i64 u.item,.int .i64 u.n,.int .i64 u.kind,.str u.label,.ls (u.head.map aQ),.ls (u.words.map aQ),.ls (u.kids.map aY)]
def eU(u:TUnit):AV:=.agg (cU u)
def cI(x:PItem):List AV:=[.int .i64 x.kind,.ls (x.at_.map aK),.ls (x.to.map aK),.int .i64 x.where_,.int .i64 x.nth_,
 .int .i64 x.unit.act,.int .i64 x.unit.item,.int .i64 x.unit.n,.int .i64 x.unit.kind,.str x.unit.label,.ls (x.unit.head.map aQ),.ls (x.unit.words.map aQ),.ls (x.unit.kids.map aY),
 .ls (x.old.map nP),.ls (x.new.map nP),.str x.label,.str x.for_,.int .i64 x.start.kind,.int .i64 x.start.day,.str x.start.event,.int .i64 x.act,.int .i64 x.item,.int .i64 x.day,.str x.event,.ls (x.by_.map OS)]
def eI(x:PItem):AV:=.agg (cI x)
def ay(a:PAct):AV:=.agg [.int .i64 a.number,.str a.title,.int .i64 a.day,.int .i64 a.start.kind,.int .i64 a.start.day,.str a.start.event,.ls (a.items.map OS)]
def aI(g:PGaz):AV:=.agg [.int .i64 g.number,.int .i64 g.day,.str g.prior,.ls (g.acts.map ay)]
def aq(d:PDeed):AV:=.agg (.int .i64 d.act::.int .i64 d.item::.int .i64 d.day::cI d.it)
def aU(s:PSpan):AV:=.agg [.int .i64 s.from_,.int .i64 s.to]
def jQ(s:PFail):AV:=.agg [.int .i64 s.act,.int .i64 s.item,.int .i64 s.why]
end
theorem Bb:∀(l:List TUnit),Iz l=l.map aY
 |[]=>by rw[Iz];rfl
 |u::r=>by rw[Iz,Bb r];rfl
theorem Ij:∀(l:List PItem),Ik l=l.map OS
 |[]=>by rw[Ik];rfl
 |u::r=>by rw[Ik,Ij r];rfl
theorem aR(u:TUnit):aY u=eU u:=by
 obtain⟨a,i,n,k,l,h,w,ks⟩:=u;rw[aY,Bu,Bb];rfl
theorem eT(x:PItem):OS x=eI x:=by
 obtain⟨k,a,t,w,nn,⟨ua,ui,un,uk,ul,uh,uw,uks⟩,o,n,lb,fo,st,ac,it,dy,ev,by_⟩:=x;rw[OS,KP,Bu,Ij,Bb];rfl
theorem jx(w:PWord):(aQ w).top=0:=rfl
theorem KE(w:au):(nP w).top=0:=rfl
theorem Ym(w:Int):(bM w).top=0:=rfl
theorem Ix(w:PStep):(aK w).top=0:=rfl
theorem WM(w:PSpan):(aU w).top=0:=rfl
theorem gC(w:PFail):(jQ w).top=0:=rfl
theorem abu(u:PItem):(eI u).top=0:=rfl
theorem iB(u:TUnit):(aY u).top=0:=by rw[aR];rfl
theorem Iw(u:PItem):(OS u).top=0:=by rw[eT];rfl
theorem KG(w:PAct):(ay w).top=0:=rfl
theorem KF(w:PGaz):(aI w).top=0:=rfl
theorem x8(w:PDeed):(aq w).top=0:=rfl
mutual
def uW:TUnit->Prop
 |⟨_,_,_,_,_,h,w,kids⟩=>h.length<2^60/\w.length<2^60/\kids.length<2^60/\H2 kids
def H2:List TUnit->Prop
 |[]=>True
 |u::r=>uW u/\H2 r
end
theorem Dh:∀{l:List TUnit},H2 l↔∀u,u∈l->uW u
 |[]=>by simp[H2]
 |v::r=>by simp[H2,Dh (l:=r)]
mutual
def n6:PItem->Prop
 |⟨_,a,t,_,_,u,o,n,_,_,_,_,_,_,_,by_⟩=>a.length<2^60/\t.length<2^60/\o.length<2^60/\n.length<2^60/\by_.length<2^60/\uW u/\H3 by_
def H3:List PItem->Prop
 |[]=>True
 |u::r=>n6 u/\H3 r
end
theorem Di:∀{l:List PItem},H3 l↔∀u,u∈l->n6 u
 |[]=>by simp[H3]
 |v::r=>by simp[H3,Di (l:=r)]
theorem ru{u:TUnit}:uW u↔u.head.length<2^60/\u.words.length<2^60/\u.kids.length<2^60/\∀k,k∈u.kids->uW k:=by
 obtain⟨a,i,n,k,l,h,w,ks⟩:=u;rw[uW,Dh];exact Iff.rfl
theorem rA{x:PItem}:n6 x↔x.at_.length<2^60/\x.to.length<2^60/\x.old.length<2^60/\x.new.length<2^60/\x.by_.length<2^60/\uW x.unit/\∀k,k∈x.by_->n6 k:=by
 obtain⟨k,a,t,w,nn,u,o,n,lb,fo,st,ac,it,dy,ev,by_⟩:=x;rw[n6,Di];exact Iff.rfl
def Sq(a:PAct):Prop:=a.items.length<2^60/\∀x,x∈a.items->n6 x
def Yv(g:PGaz):Prop:=g.acts.length<2^60/\∀a,a∈g.acts->Sq a
def qh(gs:List PGaz):Prop:=gs.length<2^60/\∀g,g∈gs->Yv g
theorem FE{u k:TUnit}(h:k∈u.kids):SizeOf.sizeOf k<SizeOf.sizeOf u:=by
 obtain⟨a,i,n,kk,l,hh,w,ks⟩:=u;have h:k∈ks:=h;have:=List.sizeOf_lt_of_mem h;grind
theorem JZ{u k:PItem}(h:k∈u.by_):SizeOf.sizeOf k<SizeOf.sizeOf u:=by
 obtain⟨kd,a,t,w,nn,uu,o,n,lb,fo,st,ac,it,dy,ev,by_⟩:=u;have h:k∈by_:=h;have:=List.sizeOf_lt_of_mem h;grind
theorem TUnit.ind{p:TUnit->Prop}(h:∀u,(∀k,k∈u.kids->p k)->p u)(u:TUnit):p u:=h u fun k hk=>TUnit.ind h k
termination_by SizeOf.sizeOf u
decreasing_by exact FE hk
theorem PItem.ind{p:PItem->Prop}(h:∀u,(∀k,k∈u.by_->p k)->p u)(u:PItem):p u:=h u fun k hk=>PItem.ind h k
termination_by SizeOf.sizeOf u
decreasing_by exact JZ hk
structure KeyOf(K:Type)(ag:Bool)(sz:Nat)(lv:List (Nat×Nat))(kenc:K->AV)(keq:K->K->Bool):Prop where
 eq:∀a b,rg ag sz lv (kenc a) (kenc b)=some (keq a b)
 t:∀a b,keq a b=true->a=b
 refl:∀a,keq a a=true
 same:∀a,kN (kenc a) (kenc a)=true
 top:∀a,(kenc a).top=0
section
variable{K V:Type}{ag:Bool}{sz:Nat}{lv:List (Nat×Nat)}{kenc:K->AV}{keq:K->K->Bool}{f:V->AV}
noncomputable def an(kenc:K->AV)(f:V->AV):List (K×V)->Nat->List AEnt
 |[],_=>[]
 |(k,v)::r,i=>⟨kenc k,f v,i⟩::an kenc f r (i+1)
def ip(keq:K->K->Bool)(k:K):List (K×V)->Option V
 |[]=>none
 |(j,v)::r=>match keq k j with|true=>some v|false=>ip keq k r
def fZ(keq:K->K->Bool)(k:K)(v:V):List (K×V)->List (K×V)
 |[]=>[(k,v)]
 |(j,u)::r=>match keq k j with|true=>(j,v)::r|false=>(j,u)::fZ keq k v r
theorem uK(hk:KeyOf K ag sz lv kenc keq)(k:K):∀(l:List (K×V))(i:Nat),bw ag sz lv (kenc k) (an kenc f l i) i=some (match ip keq k l with|none=>none|some v=>some (i+(l.takeWhile fun p=>!(keq k p.1)).length,⟨kenc k,f v,i+(l.takeWhile fun p=>!(keq k p.1)).length⟩))
 |[],i=>rfl
 | (j,v)::r,i=>by
  simp only[an,bw,hk.eq,ip];cases h:keq k j with
  |true=>grind[nI,List.takeWhile,cases KeyOf]
  |false=>
   simp only[nI,uK hk k r (i+1),List.takeWhile,h,Cl];grind
theorem pE(hk:KeyOf K ag sz lv kenc keq)(z:Option AV)(ok:Bool)(k:K)(l:List (K×V)):eS z ok (bw ag sz lv (kenc k) (an kenc f l 0) 0)=match ip keq k l with|none=>oq ok z false|some v=>oq ok (some (f v)) true:=by
 rw[uK hk];cases ip keq k l with
 |none=>rfl
 |some v=>rfl
theorem FJ(l r:List (K×V)):∀(i:Nat),an kenc f (l++r) i=an kenc f l i++an kenc f r (i+l.length):=by
 induction l with
 |nil=>intro i;rfl
 |cons x l ih=>
  intro i;obtain⟨j,v⟩:=x;simp only[zx,an,ih,cO,Ci,true_and,List.append_cancel_left_eq];grind
theorem CR{k:K}{v:V}:∀{l:List (K×V)},ip keq k l=none->fZ keq k v l=l++[(k,v)]
 |[],_=>rfl
 |(j,u)::r,h=>by
  simp only[ip]at h;cases q:keq k j with
  |true=>grind
  |false=>rw[q]at h;simp only[fZ,q,zx,CR h]
theorem GB{k:K}{v u:V}:∀{l:List (K×V)},ip keq k l=some u->(fZ keq k v l).length=l.length
 |(j,w)::r,h=>by
  simp only[ip]at h;cases q:keq k j with
  |true=>grind[fZ]
  |false=>rw[q]at h;simp only[fZ,q,cO,GB h]
theorem Du(hk:KeyOf K ag sz lv kenc keq){k:K}{v u:V}:∀{l:List (K×V)}(i:Nat),ip keq k l=some u->
  (an kenc f l i).set (l.takeWhile fun p=>!(keq k p.1)).length ⟨kenc k,f v,i+(l.takeWhile fun p=>!(keq k p.1)).length⟩=an kenc f (fZ keq k v l) i
 | (j,w)::r,i,h=>by
  simp only[ip]at h;cases q:keq k j with
  |true=>grind[an,fZ,List.takeWhile,cases KeyOf]
  |false=>
   rw[q]at h;simp only[an,fZ,List.takeWhile,q,Cl,cO,List.set_cons_succ,Ci,true_and];rw[<-Du hk (i+1) h];congr 2;all_goals (first|rfl|omega)
theorem rP(hk:KeyOf K ag sz lv kenc keq)(k:K)(v:V)(l:List (K×V)):qt (an kenc f l 0) l.length (kenc k) (f v) (bw ag sz lv (kenc k) (an kenc f l 0) 0)=some (an kenc f (fZ keq k v l) 0,(fZ keq k v l).length):=by
 rw[uK hk];grind[qt,CR,FJ,an,Du,GB,cases KeyOf]
theorem bJ(hk:KeyOf K ag sz lv kenc keq)(hf:∀v,(f v).top=0):∀(l:List (K×V))(i:Nat),aO (an kenc f l i)=0
 |[],_=>rfl
 |(j,v)::r,i=>by simp only[an,aO,hk.top,hf v,bJ hk hf r,XF]
variable[Inhabited K][Inhabited V]{l:List (K×V)}{seen:List Nat}
end
section
variable{V:Type}{f:V->AV}[Inhabited V]{l:List (Int×V)}{seen:List Nat}
end
noncomputable def mj(p:Int×Int):AV:=.agg [.int .i64 p.1,.int .i64 p.2]
def qQ(a b:Int×Int):Bool:=aa a.1 b.1&&aa a.2 b.2
theorem jA:KeyOf (Int×Int) true 2 [(0,1),(1,1)] mj qQ where
 eq a b:=by
  show yc [.int .i64 a.1,.int .i64 a.2] [.int .i64 b.1,.int .i64 b.2] [(0,1),(1,1)]=_
  simp only[yc,jP,TR,KA,lk,qQ];cases h1:aa a.1 b.1<;>cases h2:aa a.2 b.2<;>rfl
 t a b h:=by
  simp only[qQ,bZ]at h;grind[i9]
 refl a:=by simp[qQ,bc]
 same a:=by simp[mj,kN,j5,jf,lk,bc]
 top a:=rfl
end Go.Ev
namespace Go.Ev
open Go
section
variable{P:Program}{G:fy}{pl:Pl}{M:dT}{h:AHeap}{w w':World}
theorem TV{x:AV}{vs:Array Value}(hv:VRels pl M [x] vs):∃a,vs=#[a]/\VRel pl M x a:=by
 obtain⟨l⟩:=vs
 match l,hv with
 |[a],hv=>exact⟨a,rfl,hv.at_ 0 x rfl⟩
 |[],hv=>grind[cases VRels]
 |_::_::_,hv=>grind[cases VRels]
theorem BG{x y:AV}{vs:Array Value}(hv:VRels pl M [x,y] vs):∃a b,vs=#[a,b]/\VRel pl M x a/\VRel pl M y b:=by
 obtain⟨l⟩:=vs
 match l,hv with
 |[a,b],hv=>exact⟨a,b,rfl,hv.at_ 0 x rfl,hv.at_ 1 y rfl⟩
 |[],hv=>grind[cases VRels]
 |[_],hv=>grind[cases VRels]
 |_::_::_::_,hv=>grind[cases VRels]
theorem AQ{f:Fn}{a:Value}(hv:VRel pl M (.func f [] []) a):a=.func f #[] #[]:=by grind[cases VRel]
theorem rR:VRel pl M (.tuple []) (.tuple #[]):=.tuple rfl fun j y h=>by simp_all
end
end Go.Ev
