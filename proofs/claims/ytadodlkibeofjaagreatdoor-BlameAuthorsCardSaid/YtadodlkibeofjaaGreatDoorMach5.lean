/- An abstract machine for runs of the program, proved sound against the model: part 5. No conditions. -/
import Derived.Test.YtadodlkibeofjaaGreatDoorMach4
import Derived.Sort.Grow
namespace Go.Ev
open Go
inductive D:Type 1
 |fin
 |abs
 |go (n:Nat) (d:D)
 |val (v:AV) (d:D)
 |opv (v:AV) (h:AHeap) (d:D)
 |elem (x:AV) (d:D)
 |chr (c:UInt8) (d:D)
 |app (d:D)
 |pk (w:Bool) (d:D)
 |efd (v:AV) (h:AHeap) (d:D)
 |efx (same:Bool) (v:AV) (h:AHeap) (d:D)
 |look (v:AV) (d:D)
 |upd (es:List AEnt) (c:Nat) (d:D)
 |nxt (T:Type) (k v:T->AV) (b:T->Nat) (I:T->Prop) (a:D) (d:T->D)
 |ent (v:AV) (d:D)
 |nz (t:Nat) (a b:D)
 |slc (d:D)
 |slp (ys:List AV) (d:D)
 |apx (ys:List AV) (d:D)
 |apl (d:D)
 |pure (v:AV) (d:D)
 |asl (u:AV) (d:D)
 |rix (d:D)
 |rld (x:AV) (d:D)
 |rst (x:AV) (xs:List AV) (d:D)
 |eff (Y:Type) (r:Y->AV) (hp:Y->AHeap) (I:Y->Prop) (d:Y->D)
 |tt (d:D)
 |ff (d:D)
 |br (a b:D)
 |le (t:Nat) (u:AV) (d:D)
 |frz (k:Nat) (ts:List Nat) (d:D)
 |frl (k:Nat) (ts ls:List Nat) (d:D)
 |psh (o:AObj) (d:D)
 |un (n:Nat) (d:D)
 |inn (d:D)
 |fsl (k:Nat) (ts:List Nat) (t:Nat) (ys:List AV) (d:D)
 |ren (ids pl ts:List Nat) (d:D)
 |obj (i:Nat) (o:AObj) (d:D)
 |obw (i:Nat) (u:AV) (d:D)
 |fzo (i k:Nat) (ts:List Nat) (ys:List AV) (d:D)
 |fza (i j k:Nat) (ts:List Nat) (ys:List AV) (d:D)
 |cs (T:Type) (l:List T) (a:D) (b:T->List T->D)
 |bs (t:Bool) (a b:D)
 |join (X:Type) (ts:List Nat) (S:X->List AV×List AObj) (I:X->Prop) (d:D) (d':X->D)
 |loop (X:Type) (ts:List Nat) (S:X->List AV×List AObj) (I:X->Prop) (m:X->Nat) (x0:X) (d:X->D)
 |loop2 (X Y:Type) (ts:List Nat) (S:X->List AV×List AObj) (S':Y->List AV×List AObj) (I:X->Prop) (I':Y->Prop) (m:X->Nat) (m':Y->Nat) (x0:X ⊕ Y) (d:X->D) (d':Y->D)
noncomputable section
def nx(n:Nat)(d:D):D:=match n with|0=>d|m+1=>.go m d
inductive Gd where
 |yes|no|sym (b want:Bool)|bad
def B7(A:Fr):Option (Option Tmp×Bool)->Gd
 |none=>.yes
 |some (some d,want)=>match A.get d with
  |some (.bool b)=>.sym b want
  |some (.tuple [])=>.no
  |_=>.bad
 |some (none,_)=>.no
def uz(want:Bool)(a b:Prop):Prop:=match want with|true=>a|false=>b
def WPg(g:Gd)(d:D)(y n:D->Prop):Prop:=
 match g with
 | .yes=>y d
 | .no=>n d
 | .bad=>False
 | .sym b want=>match d with
  | .tt d'=>b=true/\uz want (y d') (n d')
  | .ff d'=>b=false/\uz want (n d') (y d')
  | .br d1 d2=>(b=true->uz want (y d1) (n d1))/\(b=false->uz want (n d2) (y d2))
  |d=>match b with|true=>uz want (y d) (n d)|false=>uz want (n d) (y d)
def kG(A:Fr)(dst:Option Tmp)(v:AV)(K:Fr->Prop):Prop:=match ie A dst v with|some A'=>K A'|none=>False
def vq(r:Option ARes)(K:AV->AHeap->Prop):Prop:=match r with|some (.val v h)=>K v h|_=>False
theorem xu{r:Option ARes}{K:AV->AHeap->Prop}(h:vq r K):∃v h1,r=some (.val v h1)/\K v h1:=by
 unfold vq at h;grind
def lP(r:Option ARes)(K:FuncId->List AV->Prop):Prop:=match r with|some (.call f args)=>K f args|_=>False
def ZI:Option AV->Option (List AV)
 |some (.ls xs)=>some xs
 |some (.ps xs _)=>some xs
 |_=>none
def Rc:Option AV->Option Nat
 |some v=>fP v
 |none=>none
def H6(P:Program)(G:eB)(op:Op)(A:Fr):Option (List AV×Nat×Nat):=match op with
 | .indexAddr t x i=>match P.underlying t with
  | some (.slice e)=>match cP P e with
   |some (s+1)=>match ZI ((cj G x).run A),Rc ((cj G i).run A)with
    |some xs,some k=>some (xs,k,s+1)
    |_,_=>none
   |_=>none
  |_=>none
 |_=>none
def uO(r:Option (List AV×Nat×Nat))(x:AV)(K:Prop):Prop:=match r with
 |some (xs,i,s)=>match Nat.beq x.cells.length s with|true=>jo xs i=some x/\K|false=>False
 |none=>False
def YG(P:Program)(G:eB)(op:Op)(A:Fr):Option (List UInt8×Nat):=match op with
 | .index t x i=>match P.underlying t with
  |some .string=>match(cj G x).run A,Rc ((cj G i).run A)with
   |some (.str s),some k=>some (s,k)
   |_,_=>none
  |_=>none
 |_=>none
def FW(r:Option (List UInt8×Nat))(c:UInt8)(K:Prop):Prop:=match r with
 |some (s,i)=>jo s i=some c/\K
 |none=>False
def pkR(G:eB)(w:Bool)(op:Op)(A:Fr):Option (Bool×AV):=match op with
 | .pick c a b=>match(cj G c).run A with
  |some (.bool t)=>match w with
   |true=>match(cj G a).run A with|some v=>some (t,v)|none=>none
   |false=>match(cj G b).run A with|some v=>some (t,v)|none=>none
  |_=>none
 |_=>none
def Ew(w:Bool)(r:Option (Bool×AV))(K:AV->Prop):Prop:=match r with
 |some (t,v)=>t=w/\K v
 |none=>False
structure Look where
 ag:Bool
 sz:Nat
 lv:List (Nat×Nat)
 z:Option AV
 ok:Bool
 id:Nat
 k:AV
 v:AV
def pw(P:Program)(G:eB)(op:Op)(A:Fr):Option Look:=match op with
 | .lookup t m k ok=>match P.underlying t with
  | some (.map kt e)=>match cH P kt,cP P kt,dH P 10 kt 0 with
   |some ag,some sz,some lv=>match(cj G m).run A,(cj G k).run A with
    |some (.map id),some k=>match G6 ag sz k with|true=>some ⟨ag,sz,lv,ia P e,ok,id,k,gj⟩|false=>none
    |_,_=>none
   |_,_,_=>none
  |_=>none
 | .mapUpdate t m k x| .insert t m k x=>match P.underlying t with
  | some (.map kt _)=>match cH P kt,cP P kt,dH P 10 kt 0 with
   |some ag,some sz,some lv=>match(cj G m).run A,(cj G k).run A,(cj G x).run A with
    |some (.map id),some k,some x=>match G6 ag sz k with|true=>some ⟨ag,sz,lv,none,false,id,k,x⟩|false=>none
    |_,_,_=>none
   |_,_,_=>none
  |_=>none
 |_=>none
def Ri:Op->Bool
 | .lookup ..=>true
 |_=>false
def WL:Op->Bool
 | .mapUpdate .. | .insert ..=>true
 |_=>false
def uf(op:Op)(h:AHeap)(r:Option Look)(v:AV)(K:Prop):Prop:=match Ri op,r with
 |true,some l=>match h.get l.id with
  |some (.map es _)=>e9 l.z l.ok (bv l.ag l.sz l.lv l.k es 0)=some v/\K
  |_=>False
 |_,_=>False
def rT(es:List AEnt)(clock:Nat)(k v:AV):Option (Option (Nat×AEnt))->Option (List AEnt×Nat)
 |some (some (i,en))=>match lg k en.key with|true=>some (es.set i {en with val:=v},clock)|false=>none
 |some none=>some (es++[{key:=k,val:=v,born:=clock}],clock+1)
 |none=>none
def yX(op:Op)(h:AHeap)(r:Option Look)(es':List AEnt)(c':Nat)(K:AHeap->Prop):Prop:=match WL op,r with
 |true,some l=>match h.get l.id with
  |some (.map es c)=>rT es c l.k l.v (bv l.ag l.sz l.lv l.k es 0)=some (es',c')/\K (h.put l.id (.map es' c'))
  |_=>False
 |_,_=>False
def zS{T:Type}(G:eB)(op:Op)(A:Fr)(h:AHeap)(k v:T->AV)(b:T->Nat)(I:T->Prop)(K0:Prop)(K1:T->AHeap->Prop):Prop:=match op with
 | .next it false=>match(cj G it).run A with
  | some (.ptr id 0 0 0)=>match h.get id with
   | some (.miter (.map m) clock seen)=>match h.get m with
    |some (.map es clock')=>(clock=clock'/\∀e,e∈es->e.born<clock/\(e.born∈seen\/∃y,I y/\e.key=k y/\e.val=v y/\e.born=b y))/\
     ((∀e,e∈es->e.born∈seen)->K0)/\∀y,I y->K1 y (h.put id (.miter (.map m) clock (seen++[b y])))
    |_=>False
   |_=>False
  |_=>False
 |_=>False
def ET(G:eB)(op:Op)(A:Fr)(h:AHeap)(v:AV)(K:Prop):Prop:=match op with
 | .entry it=>match(cj G it).run A with
  | some (.ptr id 0 0 0)=>match h.get id with
   |some (.miter (.map m) clock seen)=>match h.get m with
    |some (.map es clock')=>(clock=clock'/\HR (Bw es (xK seen))=some v)/\K
    |_=>False
   |_=>False
  |_=>False
 |_=>False
structure App where
 id:Nat
 ep:Nat
 len:Nat
 new:List AV
 sz:Nat
 b:Nat
def aaw(h:AHeap)(sz b:Nat):Option AV->Option AV->Option App
 |some (.slice id ep 0 len none),some x=>match kF h x with
  |some (y::ys)=>match dA sz (y::ys)with|true=>some ⟨id,ep,len,y::ys,sz,b⟩|false=>none
  |_=>none
 |_,_=>none
def TZ(P:Program)(G:eB)(op:Op)(A:Fr)(h:AHeap):Option App:=match op with
 | .call {callee:=.builtin .append,args,argTypes}=>match args.toList with
  | [s,x]=>match(argTypes[0]?).bind (eM P),(argTypes[1]?).bind P.underlying with
   | some e,some (.slice _)=>match P.info? e with
    | some i=>match i.size,ia P e with
     |sz+1,some z=>match Nat.beq z.cells.length (sz+1)with
      |true=>aaw h (sz+1) i.bytes ((cj G s).run A) ((cj G x).run A)
      |false=>none
     |_,_=>none
    |none=>none
   |_,_=>none
  |_=>none
 |_=>none
def Fq(h:AHeap)(a:Option App)(K:AV->AHeap->Prop):Prop:=match a with
 | some a=>match h.get a.id with
  |some (.row sz true ep xs)=>match Nat.beq sz a.sz with
   |true=>(a.ep=ep/\a.len=xs.length/\small (a.len+a.new.length) a.b=true)/\K (.slice a.id (a.ep+1) 0 (a.len+a.new.length) none) (h.put a.id (.row sz true (ep+1) (xs++a.new)))
   |false=>False
  |_=>False
 |none=>False
structure Apl where
 s:AV
 ys:List AV
 sz:Nat
 b:Nat
def aax(h:AHeap)(sz b:Nat):Option AV->Option AV->Option Apl
 |some s,some x=>match kF h x with
  |some ys=>some ⟨s,ys,sz,b⟩
  |none=>none
 |_,_=>none
def Na(P:Program)(G:eB)(op:Op)(A:Fr)(h:AHeap):Option Apl:=match op with
 | .call {callee:=.builtin .append,args,argTypes}=>match args.toList with
  | [s,x]=>match(argTypes[0]?).bind (eM P),(argTypes[1]?).bind P.underlying with
   | some e,some (.slice _)=>match P.info? e with
    | some i=>match i.size,ia P e with
     |sz+1,some z=>match Nat.beq z.cells.length (sz+1)with
      |true=>aax h (sz+1) i.bytes ((cj G s).run A) ((cj G x).run A)
      |false=>none
     |_,_=>none
    |none=>none
   |_,_=>none
  |_=>none
 |_=>none
def yp(h:AHeap)(a:Option Apl)(K:AV->AHeap->Prop):Prop:=match a with
 | some a=>(a.ys≠[]/\dA a.sz a.ys=true)/\match a.s with
  | .nils=>small a.ys.length a.b=true/\K (.slice h.n 0 0 a.ys.length none) (h.push (.row a.sz true 0 a.ys))
  | .ps [] true=>small a.ys.length a.b=true/\K (.slice h.n 0 0 a.ys.length none) (h.push (.row a.sz true 0 a.ys))
  | .ps (z::zs) true=>(small ((z::zs).length+a.ys.length) a.b=true/\dA a.sz (z::zs)=true)/\K (.slice h.n 0 0 (z::zs++a.ys).length none) (h.push (.row a.sz true 0 (z::zs++a.ys)))
  | .slice id ep 0 len none=>match h.get id with
   |some (.row sz true ep' xs)=>match Nat.beq sz a.sz with
    |true=>(ep=ep'/\len=xs.length/\small (len+a.ys.length) a.b=true)/\K (.slice id (ep+1) 0 (len+a.ys.length) none) (h.put id (.row sz true (ep+1) (xs++a.ys)))
    |false=>False
   |_=>False
  |_=>False
 |none=>False
def IA(h:AHeap)(a:Option Apl)(xs':List AV)(K:AV->AHeap->Prop):Prop:=match a with
 | some a=>(a.ys≠[]/\dA a.sz a.ys=true)/\match a.s with
  | .nils=>(a.ys=xs'/\small a.ys.length a.b=true)/\K (.slice h.n 0 0 a.ys.length none) (h.push (.row a.sz true 0 xs'))
  | .ps [] true=>(a.ys=xs'/\small a.ys.length a.b=true)/\K (.slice h.n 0 0 a.ys.length none) (h.push (.row a.sz true 0 xs'))
  | .ps (z::zs) true=>((z::zs++a.ys=xs'/\small ((z::zs).length+a.ys.length) a.b=true)/\dA a.sz (z::zs)=true)/\K (.slice h.n 0 0 xs'.length none) (h.push (.row a.sz true 0 xs'))
  | .slice id ep 0 len none=>match h.get id with
   |some (.row sz true ep' xs)=>match Nat.beq sz a.sz with
    |true=>((ep=ep'/\len=xs.length/\small (len+a.ys.length) a.b=true)/\xs++a.ys=xs')/\K (.slice id (ep+1) 0 (len+a.ys.length) none) (h.put id (.row sz true (ep+1) xs'))
    |false=>False
   |_=>False
  |_=>False
 |none=>False
theorem abq{h:AHeap}{a:Option Apl}{xs':List AV}{K:AV->AHeap->Prop}(e:IA h a xs' K):yp h a K:=by
 cases a with
 |none=>exact e.elim
 | some a=>
  obtain⟨s,ys,sz,b⟩:=a;obtain⟨h1,e⟩:=e;refine⟨h1,?_⟩;simp only[]at e ⊢;split at e
  ·grind
  ·grind
  ·simp_all
  ·split at e
   ·rename_i hg;try simp only[hg]
    split at e
    ·rename_i hb;try simp only[hb]
     grind
    omega
   omega
  omega
structure Rix where
 id:Nat
 ep:Nat
 ep':Nat
 off:Nat
 i:Nat
 len:Nat
def LA(P:Program)(G:eB)(op:Op)(A:Fr)(h:AHeap):Option Rix:=match op with
 | .indexAddr t x i=>match P.underlying t with
  | some (.slice e)=>match cP P e with
   | some (s+1)=>match(cj G x).run A,Rc ((cj G i).run A)with
    |some (.slice id ep off len _),some k=>match h.get id with
     |some (.row sz _ ep' _)=>match Nat.beq sz (s+1)with|true=>some ⟨id,ep,ep',off,k,len⟩|false=>none
     |_=>none
    |some (.sl0 id ep len _),some k=>match h.get id with
     |some (.row sz _ ep' _)=>match Nat.beq sz (s+1)with|true=>some ⟨id,ep,ep',0,k,len⟩|false=>none
     |_=>none
    |_,_=>none
   |_=>none
  |_=>none
 |_=>none
def Fj(off i:Nat):Nat:=match off with|0=>i|k+1=>(k+1)+i
def yq(r:Option Rix)(K:AV->Prop):Prop:=match r with
 |some q=>(q.ep=q.ep'/\q.i<q.len)/\K (.ptr q.id q.ep (Fj q.off q.i) 0)
 |none=>False
structure Slc where
 id:Nat
 ep:Nat
 ep':Nat
 off:Nat
 lo:Nat
 hi:Nat
 n:Nat
def Xe(h l:Nat):Nat:=match l with|0=>h|k+1=>h-(k+1)
def OY(G:eB)(A:Fr)(d:Nat):Option Operand->Option Nat
 |none=>some d
 |some x=>Rc ((cj G x).run A)
def Ld(P:Program)(G:eB)(op:Op)(A:Fr)(h:AHeap):Option Slc:=match op with
 | .slice t x lo hi none=>match P.underlying t with
  | some (.slice e)=>match cP P e with
   | some (s+1)=>match(cj G x).run A with
    |some (.slice id ep off len none)=>match OY G A 0 lo,OY G A len hi,h.get id with
     |some l,some hh,some (.row sz _ ep' xs)=>match Nat.beq sz (s+1)with|true=>some ⟨id,ep,ep',off,l,hh,xs.length⟩|false=>none
     |_,_,_=>none
    |_=>none
   |_=>none
  |_=>none
 |_=>none
def yV(r:Option Slc)(K:AV->Prop):Prop:=match r with
 |some q=>(q.ep=q.ep'/\q.lo<=q.hi/\Fj q.off q.hi<=q.n)/\K (.slice q.id q.ep (Fj q.off q.lo) (Xe q.hi q.lo) none)
 |none=>False
structure Slp where
 xs:List AV
 sz:Nat
 lo:Nat
 hi:Nat
def Lc(P:Program)(G:eB)(op:Op)(A:Fr):Option Slp:=match op with
 | .slice t x lo hi none=>match P.underlying t with
  | some (.slice e)=>match cP P e with
   | some (s+1)=>match(cj G x).run A with
    |some (.ls xs)=>match OY G A 0 lo,OY G A xs.length hi with
     |some l,some hh=>some ⟨xs,s+1,l,hh⟩
     |_,_=>none
    |_=>none
   |_=>none
  |_=>none
 |_=>none
def yK(r:Option Slp)(ys:List AV)(K:AV->Prop):Prop:=match r with
 |some q=>(pc q.sz q.xs=true/\(q.lo<=q.hi/\q.hi<=q.xs.length)/\(q.xs.take q.hi).drop q.lo=ys)/\K (.ls ys)
 |none=>False
structure Rld where
 ep:Nat
 ep':Nat
 xs:List AV
 i:Nat
 off:Nat
 ag:Bool
 n:Nat
def Lu(P:Program)(G:eB)(op:Op)(A:Fr)(h:AHeap):Option Rld:=match op with
 | .load t a=>match cH P t,cP P t with
  | some ag,some n=>match(cj G a).run A with
   |some (.ptr id ep i off)=>match h.get id with
    |some (.row _ _ ep' xs)=>some ⟨ep,ep',xs,i,off,ag,n⟩
    |_=>none
   |_=>none
  |_,_=>none
 |_=>none
def yU(r:Option Rld)(x:AV)(K:AV->Prop):Prop:=match r with
 |some q=>match ux q.ag q.n x.cells q.off with
  |some v=>(q.ep=q.ep'/\jo q.xs q.i=some x)/\K v
  |none=>False
 |none=>False
structure Rst where
 id:Nat
 ep:Nat
 ep':Nat
 sz:Nat
 op:Bool
 xs:List AV
 i:Nat
 off:Nat
 v:AV
def Lr(P:Program)(G:eB)(op:Op)(A:Fr)(h:AHeap):Option Rst:=match op with
 | .store t a x=>match cP P t with
  | some n=>match(cj G a).run A,(cj G x).run A with
   | some (.ptr id ep i off),some v=>match h.get id with
    |some (.row sz op ep' xs)=>match Nat.beq v.cells.length n&&fZ v with
     |true=>some ⟨id,ep,ep',sz,op,xs,i,off,v⟩
     |false=>none
    |_=>none
   |_,_=>none
  |none=>none
 |_=>none
def yY(h:AHeap)(r:Option Rst)(x:AV)(xs':List AV)(K:AHeap->Prop):Prop:=match r with
 |some q=>match uK x q.off q.v with
  |some y=>(q.ep=q.ep'/\jo q.xs q.i=some x/\q.xs.set q.i y=xs')/\K (h.put q.id (.row q.sz q.op q.ep' xs'))
  |none=>False
 |none=>False
def Nx{X:Type}(I:X->Prop)(m:X->Nat)(S:X->List AV×List AObj)(x:X)(p:List AV×List AObj):Prop:=∃y,I y/\m y<m x/\p=S y
def T4(n:Nat)(ts:List Nat)(p:List AV×List AObj):St:=⟨eZ n (ts.zip p.1),aa p.2⟩
section
variable(P:Program)(G:eB)(call:cJ)(m:Nat)
def EV:List AV->Bool
 |[]=>true
 |x::r=>cN x&&EV r
def nc(h:AHeap)(n:Nat):Nat->Prop
 |0=>True
 |k+1=>match h.get k with
  |some o=>Nat.ble o.top n=true/\nc h n k
  |none=>nc h n k
def Qi(h:AHeap)(ids pl:List Nat):List Nat->(List AObj->Prop)->Prop
 |[],K=>K []
 | i::r,K=>match h.get i with
  | some o=>match jU i pl with
   |true=>o.top=0/\Qi h ids pl r fun L=>K (o::L)
   |false=>match tE ids o with
    |true=>Qi h ids pl r fun L=>K (kU (fun i=>jR i ids 0) o::L)
    |false=>False
  |none=>False
def pre:D->St->(D->St->Prop)->Prop
 | .le t u d,s,K=>match s.tmps.get t with
  |some v=>Le u v/\(match ie s.tmps (some t) u with|some A'=>pre d ⟨A',s.heap⟩ K|none=>False)
  |none=>False
 | .frz k ts d,s,K=>match Nat.ble m k&&Nat.ble k s.heap.n with
  | true=>nc s.heap k k/\match frzL s.tmps s.heap k ts with
   |some L=>match ed s.heap k 0 with
    |some os=>pre d ⟨eZ s.tmps.n L,aa os⟩ K
    |none=>False
   |none=>False
  |false=>False
 | .psh o d,s,K=>pre d ⟨s.tmps,s.heap.push o⟩ K
 | .frl k ts ls d,s,K=>match Nat.ble m k&&Nat.ble k s.heap.n with
  |true=>nc s.heap k k/\GS s.tmps k ls/\match frzL s.tmps s.heap k ts,DQ s.tmps ls,ed s.heap k 0 with
   |some L,some K',some os=>pre d ⟨eZ s.tmps.n (K'++L),aa os⟩ K
   |_,_,_=>False
  |false=>False
 | .fsl k ts t ys d,s,K=>match Nat.ble m k&&Nat.ble k s.heap.n with
  | true=>nc s.heap k k/\match frzL s.tmps s.heap k ts,s.tmps.get t with
   |some L,some (.slice id ep off len cap)=>match Nat.ble k id,s.heap.get id,ed s.heap k 0 with
    |true,some (.row _ _ ep' xs),some os=>(ep=ep'/\(xs.drop off).take len=ys/\aq ys=0)/\pre d ⟨eZ s.tmps.n ((t,.ps ys (oa cap (some len)))::L),aa os⟩ K
    |_,_,_=>False
   |_,_=>False
  |false=>False
 | .ren ids pl ts d,s,K=>match zE ids&&AA ids m with
  |true=>match NO s.tmps ids ts with
   |some L=>Qi s.heap ids pl ids fun os=>pre d ⟨eZ s.tmps.n L,aa os⟩ K
   |none=>False
  |false=>False
 | .obj i o d,s,K=>match s.heap.get i with
  |some o'=>o'=o/\pre d ⟨s.tmps,s.heap.put i o⟩ K
  |none=>False
 | .obw i u d,s,K=>match s.heap.get i with
  |some (.row sz op ep [v])=>match Nat.beq u.cells.length v.cells.length&&fZ u&&EV u.cells with
   |true=>(∀(j:Nat)(y:AV),u.cells[j]?=some y->∃x:AV,v.cells[j]?=some x/\Le y x)/\pre d ⟨s.tmps,s.heap.put i (.row sz op ep [u])⟩ K
   |false=>False
  |_=>False
 | .fzo i k ts ys d,s,K=>match Nat.ble m k&&Nat.ble k s.heap.n&&Nat.blt i k with
  | true=>match s.heap.get i with
   |some (.row sz op ep' [.slice id ep off len cap])=>match Nat.ble k id,s.heap.get id,frzL s.tmps s.heap k ts,ed (s.heap.put i (.row sz op ep' [.ls ys])) k 0 with
    |true,some (.row _ _ ep2 xs),some L,some os=>nc (s.heap.put i .dead) k k/\(ep=ep2/\(xs.drop off).take len=ys/\aq ys=0)/\pre d ⟨eZ s.tmps.n L,aa os⟩ K
    |_,_,_,_=>False
   |_=>False
  |false=>False
 | .fza i j k ts ys d,s,K=>match Nat.ble m k&&Nat.ble k s.heap.n&&Nat.blt i k with
  | true=>match s.heap.get i with
   | some (.row sz op ep' [.agg cs])=>match jo cs j with
    |some (.slice id ep off len cap)=>match Nat.ble k id,s.heap.get id,frzL s.tmps s.heap k ts,ed (s.heap.put i (.row sz op ep' [.agg (cs.set j (.ls ys))])) k 0 with
     |true,some (.row _ _ ep2 xs),some L,some os=>nc (s.heap.put i (.row sz op ep' [.agg (cs.set j (.ls ys))])) k k/\(ep=ep2/\(xs.drop off).take len=ys/\aq ys=0)/\pre d ⟨eZ s.tmps.n L,aa os⟩ K
     |_,_,_,_=>False
    |some (.sl0 id ep len cap)=>match Nat.ble k id,s.heap.get id,frzL s.tmps s.heap k ts,ed (s.heap.put i (.row sz op ep' [.agg (cs.set j (.ls ys))])) k 0 with
     |true,some (.row _ _ ep2 xs),some L,some os=>nc (s.heap.put i (.row sz op ep' [.agg (cs.set j (.ls ys))])) k k/\(ep=ep2/\(xs.drop 0).take len=ys/\aq ys=0)/\pre d ⟨eZ s.tmps.n L,aa os⟩ K
     |_,_,_,_=>False
    |_=>False
   |_=>False
  |false=>False
 | .abs,_,_=>False
 | .cs _ l a b,s,K=>(l=[]->pre a s K)/\(∀w r,l=w::r->pre (b w r) s K)
 | .bs t a b,s,K=>(t=true->pre a s K)/\(t=false->pre b s K)
 |d,s,K=>K d s
def aaE(o:Oper)(d:D)(s:St)(K:D->St->Prop):Prop:=
 match d with
 | .go n d'=>match behind call s.heap ((eT P G o.op).run s.tmps s.heap)with
  |some (v,h')=>kG s.tmps o.dst v fun A=>K (nx n d') ⟨A,h'⟩
  |none=>False
 | .opv v h' d'=>(eT P G o.op).run s.tmps s.heap=some (.val v h')/\kG s.tmps o.dst v fun A=>K d' ⟨A,h'⟩
 | .val v d'=>(eT P G o.op).run s.tmps s.heap=some (.val v s.heap)/\kG s.tmps o.dst v fun A=>K d' ⟨A,s.heap⟩
 | .elem x d'=>uO (H6 P G o.op s.tmps) x (kG s.tmps o.dst (.pptr [x] 0 0) fun A=>K d' ⟨A,s.heap⟩)
 | .chr c d'=>FW (YG P G o.op s.tmps) c (kG s.tmps o.dst (.int .u8 (.ofNat c.toNat)) fun A=>K d' ⟨A,s.heap⟩)
 | .efd v h' d'=>lP ((eT P G o.op).run s.tmps s.heap) fun f args=>aE P G f args s.heap (fun v1 h1=>v1=v/\h1=h')/\kG s.tmps o.dst v fun A=>K d' ⟨A,h'⟩
 | .look v d'=>uf o.op s.heap (pw P G o.op s.tmps) v (kG s.tmps o.dst v fun A=>K d' ⟨A,s.heap⟩)
 | .upd es c d'=>yX o.op s.heap (pw P G o.op s.tmps) es c fun h'=>kG s.tmps o.dst gj fun A=>K d' ⟨A,h'⟩
 | .nxt T k v b I a d'=>zS G o.op s.tmps s.heap k v b I (kG s.tmps o.dst (.tuple [.bool false]) fun A=>K a ⟨A,s.heap⟩) fun y h'=>kG s.tmps o.dst (.tuple [.bool true,k y,v y]) fun A=>K (d' y) ⟨A,h'⟩
 | .ent v d'=>ET G o.op s.tmps s.heap v (kG s.tmps o.dst v fun A=>K d' ⟨A,s.heap⟩)
 | .pk w d'=>Ew w (pkR G w o.op s.tmps) fun v=>kG s.tmps o.dst v fun A=>K d' ⟨A,s.heap⟩
 | .app d'=>Fq s.heap (TZ P G o.op s.tmps s.heap) fun v h'=>kG s.tmps o.dst v fun A=>K d' ⟨A,h'⟩
 | .pure v d'=>lP ((eT P G o.op).run s.tmps s.heap) fun f args=>aL P G f args v/\kG s.tmps o.dst v fun A=>K d' ⟨A,s.heap⟩
 | .rix d'=>yq (LA P G o.op s.tmps s.heap) fun v=>kG s.tmps o.dst v fun A=>K d' ⟨A,s.heap⟩
 | .apl d'=>yp s.heap (Na P G o.op s.tmps s.heap) fun v h'=>kG s.tmps o.dst v fun A=>K d' ⟨A,h'⟩
 | .slc d'=>yV (Ld P G o.op s.tmps s.heap) fun v=>kG s.tmps o.dst v fun A=>K d' ⟨A,s.heap⟩
 | .slp ys d'=>yK (Lc P G o.op s.tmps) ys fun v=>kG s.tmps o.dst v fun A=>K d' ⟨A,s.heap⟩
 | .rld x d'=>yU (Lu P G o.op s.tmps s.heap) x fun v=>kG s.tmps o.dst v fun A=>K d' ⟨A,s.heap⟩
 | .rst x xs d'=>yY s.heap (Lr P G o.op s.tmps s.heap) x xs fun h'=>kG s.tmps o.dst gj fun A=>K d' ⟨A,h'⟩
 | .eff _ r hp I d'=>lP ((eT P G o.op).run s.tmps s.heap) fun f args=>aE P G f args s.heap (fun v h'=>∃y,I y/\v=r y/\h'=hp y)/\∀y,I y->kG s.tmps o.dst (r y) fun A=>K (d' y) ⟨A,hp y⟩
 |_=>False
def ZA(s:St)(t:Nat)(K0 K1:St->Prop):Prop:=match s.tmps.get t with
 |some (.ls xs)=>(xs=[]->kG s.tmps (some t) .nils fun A=>K0 ⟨A,s.heap⟩)/\kG s.tmps (some t) (.ps xs false) fun A=>K1 ⟨A,s.heap⟩
 |_=>False
def WPn(d:D)(s:St)(K:D->St->Prop):Prop:=match d with
 | .nz t a b=>ZA s t (K a) (K b)
 |d=>K d s
def ZK(ops:Array Oper):List Oper->D->St->(D->St->Prop)->Prop
 |[],d,s,K=>K d s
 |o::r,d,s,K=>WPn d s fun d s=>pre m d s fun d s=>WPn d s fun d s=>WPg (B7 s.tmps (dT ops o)) d
  (fun d=>aaE P G call o d s fun d s=>ZK ops r d s K)
  (fun d=>kG s.tmps o.dst gj fun A=>ZK ops r d ⟨A,s.heap⟩ K)
def YE(F:Fr)(h:AHeap)(d:DOper):CX:=
 match d.kind with
 |0=>pO F h d (cW F d.foot)
 |1=>pp F h d (cW F d.foot)
 |_=>NJ call F h d
def Qc(h h':AHeap):Nat->Prop
 |0=>True
 |k+1=>h'.get k=h.get k/\Qc h h' k
def Xo(b:Bool)(h h':AHeap)(n:Nat):Prop:=match b with|true=>Qc h h' n|false=>True
def Bz(masks:List (Nat×Nat))(k:Nat)(r:Rec)(rs:List Rec)(p:Prop):Prop:=match lf (eH masks k) r rs k with|true=>p|false=>False
def aaF(o:Oper)(dp:DOper)(d:D)(F:Fr)(h:AHeap)(K:D->AV->AHeap->Rec->Prop):Prop:=
 match d with
 | .go n d'=>match YE call F h dp with
  |some (v,h',rec)=>K (nx n d') v h' rec
  |none=>False
 | .asl u d'=>match YE call F h dp with
  |some (v,h',rec)=>Le u v/\K d' u h' rec
  |none=>False
 | .rix d'=>match Nat.beq (c9 o.op) 0 with
  |true=>yq (LA P G o.op ⟨F.n,bN F dp.look .nil⟩ ⟨1000000,bF h (cW F dp.foot) .nil⟩) fun v=>K d' v h (Ev.rd (cW F dp.foot))
  |false=>False
 | .slc d'=>match Nat.beq (c9 o.op) 0 with
  |true=>yV (Ld P G o.op ⟨F.n,bN F dp.look .nil⟩ ⟨1000000,bF h (cW F dp.foot) .nil⟩) fun v=>K d' v h (Ev.rd (cW F dp.foot))
  |false=>False
 | .rld x d'=>match Nat.beq (c9 o.op) 0 with
  |true=>yU (Lu P G o.op ⟨F.n,bN F dp.look .nil⟩ ⟨1000000,bF h (cW F dp.foot) .nil⟩) x fun v=>K d' v h (Ev.rd (cW F dp.foot))
  |false=>False
 | .rst x xs d'=>match Nat.beq (c9 o.op) 1 with
  |true=>ip F h.n dp.look=true/\pq h h.n (cW F dp.foot)=true/\yY ⟨h.n,bF h (cW F dp.foot) .nil⟩ (Lr P G o.op ⟨F.n,bN F dp.look .nil⟩ ⟨h.n,bF h (cW F dp.foot) .nil⟩) x xs fun hw=>
   match lY h ⟨h.n,bF h (cW F dp.foot) .nil⟩ (cW F dp.foot) (some (.val gj hw))with
   |some (v,h',rec)=>K d' v h' rec
   |none=>False
  |false=>False
 | .upd es c d'=>match Nat.beq (c9 o.op) 1 with
  |true=>ip F h.n dp.look=true/\pq h h.n (cW F dp.foot)=true/\yX o.op ⟨h.n,bF h (cW F dp.foot) .nil⟩ (pw P G o.op ⟨F.n,bN F dp.look .nil⟩) es c fun hw=>
   match lY h ⟨h.n,bF h (cW F dp.foot) .nil⟩ (cW F dp.foot) (some (.val gj hw))with
   |some (v,h',rec)=>K d' v h' rec
   |none=>False
  |false=>False
 | .apx xs d'=>match Nat.beq (c9 o.op) 1 with
  |true=>ip F h.n dp.look=true/\pq h h.n (cW F dp.foot)=true/\IA ⟨h.n,bF h (cW F dp.foot) .nil⟩ (Na P G o.op ⟨F.n,bN F dp.look .nil⟩ ⟨h.n,bF h (cW F dp.foot) .nil⟩) xs fun v hw=>
   match lY h ⟨h.n,bF h (cW F dp.foot) .nil⟩ (cW F dp.foot) (some (.val v hw))with
   |some (v,h',rec)=>K d' v h' rec
   |none=>False
  |false=>False
 | .app d'=>match Nat.beq (c9 o.op) 1 with
  |true=>ip F h.n dp.look=true/\pq h h.n (cW F dp.foot)=true/\vq ((eT P G o.op).run ⟨F.n,bN F dp.look .nil⟩ ⟨h.n,bF h (cW F dp.foot) .nil⟩) fun v hw=>
   match lY h ⟨h.n,bF h (cW F dp.foot) .nil⟩ (cW F dp.foot) (some (.val v hw))with
   |some (v,h',rec)=>K d' v h' rec
   |none=>False
  |false=>False
 | .opv v hw d'=>match Nat.beq (c9 o.op) 1 with
  |true=>ip F h.n dp.look=true/\pq h h.n (cW F dp.foot)=true/\(eT P G o.op).run ⟨F.n,bN F dp.look .nil⟩ ⟨h.n,bF h (cW F dp.foot) .nil⟩=some (.val v hw)/\
   match lY h ⟨h.n,bF h (cW F dp.foot) .nil⟩ (cW F dp.foot) (some (.val v hw))with
   |some (v,h',rec)=>K d' v h' rec
   |none=>False
  |false=>False
 | .val v d'=>match Nat.beq (c9 o.op) 0 with
  |true=>(eT P G o.op).run ⟨F.n,bN F dp.look .nil⟩ ⟨1000000,bF h (cW F dp.foot) .nil⟩=some (.val v ⟨1000000,bF h (cW F dp.foot) .nil⟩)/\K d' v h (Ev.rd (cW F dp.foot))
  |false=>False
 | .elem x d'=>match Nat.beq (c9 o.op) 0 with
  |true=>uO (H6 P G o.op ⟨F.n,bN F dp.look .nil⟩) x (K d' (.pptr [x] 0 0) h (Ev.rd (cW F dp.foot)))
  |false=>False
 | .efx same v h' d'=>lP ((eT P G o.op).run ⟨F.n,bN F dp.look .nil⟩ h) fun f args=>match ip F h.n dp.look&&Nat.ble h.n h'.n&&(same||nO h h' h.n)with
  |true=>nc h h.n h.n/\Xo same h h' h.n/\aE P G f args h (fun v1 h1=>v1=v/\h1=h')/\K d' v h' ⟨⟨true,[],h.n,h.n⟩,⟨ax same,[],h.n,h'.n⟩⟩
  |false=>False
 | .efd v h' d'=>lP ((eT P G o.op).run ⟨F.n,bN F dp.look .nil⟩ h) fun f args=>match ip F h.n dp.look&&fw h h.n h.n&&Nat.ble h.n h'.n&&nO h h' h.n with
  |true=>aE P G f args h (fun v1 h1=>v1=v/\h1=h')/\K d' v h' ⟨⟨true,[],h.n,h.n⟩,⟨true,[],h.n,h'.n⟩⟩
  |false=>False
 | .slp ys d'=>match Nat.beq (c9 o.op) 0 with
  |true=>yK (Lc P G o.op ⟨F.n,bN F dp.look .nil⟩) ys fun v=>K d' v h (Ev.rd (cW F dp.foot))
  |false=>False
 | .look v d'=>match Nat.beq (c9 o.op) 0 with
  |true=>uf o.op ⟨1000000,bF h (cW F dp.foot) .nil⟩ (pw P G o.op ⟨F.n,bN F dp.look .nil⟩) v (K d' v h (Ev.rd (cW F dp.foot)))
  |false=>False
 | .pk w d'=>match Nat.beq (c9 o.op) 0 with
  |true=>Ew w (pkR G w o.op ⟨F.n,bN F dp.look .nil⟩) fun v=>K d' v h (Ev.rd (cW F dp.foot))
  |false=>False
 | .pure v d'=>lP ((eT P G o.op).run ⟨F.n,bN F dp.look .nil⟩ h) fun f args=>match Nat.beq (aq args) 0&&Nat.beq v.top 0 with
  |true=>aL P G f args v/\K d' v h (Ev.rd [])
  |false=>False
 | .fsl _ _ _ ys d'=>vq ((eT P G o.op).run ⟨F.n,bN F dp.look .nil⟩ AHeap.none) fun v h1=>match ip F 0 dp.look with
  |true=>Le (.ls ys) (fR 0 0 v h1).1/\K d' (.ls ys) h (Ev.rd [])
  |false=>False
 |_=>False
def ZV(ops:Array Oper)(masks:List (Nat×Nat)):List Oper->Nat->D->Fr->AHeap->List Rec->(D->St->Prop)->Prop
 |[],_,d,F,h,_,K=>match Nat.ble h.n 1000000 with|true=>K d ⟨F,h⟩|false=>False
 |o::r,k,d,F,h,rs,K=>WPg (B7 ⟨F.n,bN F (o.looksAt ops) .nil⟩ (dT ops o)) d
  (fun d=>aaF P G call o (dop P G ops o) d F h fun d v h' rec=>Bz masks k rec rs (kG F o.dst v fun F'=>ZV ops masks r (k+1) d F' h' (rec::rs) K))
  (fun d=>Bz masks k (Ev.rd []) rs (kG F o.dst gj fun F'=>ZV ops masks r (k+1) d F' h (Ev.rd []::rs) K))
def WPc(v:Option AV)(d:D)(a b:D->Prop):Prop:=
 match v with
 |some (.bool t)=>match d with
  | .go n d'=>match t with|true=>a (nx n d')|false=>b (nx n d')
  | .tt d'=>t=true/\a d'
  | .ff d'=>t=false/\b d'
  | .br d1 d2=>(t=true->a d1)/\(t=false->b d2)
  |_=>False
 |_=>False
structure WC where
 run:D->St->(AExit->D->St->Prop)->Prop
def Xm(b:WC)(K:AExit->D->St->Prop)(e:AExit)(d:D)(s:St):Prop:=match e with| .normal=>b.run d s K|e=>K e d s
def WI(n:Nat)(ts:List Nat){X:Type}(S:X->List AV×List AObj)(I:X->Prop)(K:AExit->D->St->Prop)(e:AExit)(d:D)(s:St):Prop:=match e with
 | .normal=>pre m d s fun _ s=>match Nat.beq s.tmps.n n,pd s.tmps ts,ed s.heap s.heap.n 0 with
  |true,some vs,some os=>∃y,I y/\(vs,os)=S y
  |_,_,_=>False
 |e=>K e d s
def aaY(a b:WC)(d:D)(s:St)(K:AExit->D->St->Prop):Prop:=match d with
 | .join _ ts S I d1 d2=>a.run d1 s (WI m s.tmps.n ts S I K)/\∀x,I x->b.run (d2 x) (T4 s.tmps.n ts (S x)) K
 | .inn d=>a.run d s (Xm b K)
 |d=>a.run d s (Xm b K)
def Zo(id:Nat)(K:AExit->D->St->Prop)(e:AExit)(d:D)(s:St):Prop:=match e with
 | .exit k=>match Nat.beq k id with|true=>K .normal d s|false=>K (.exit k) d s
 |e=>K e d s
def zf(n:Nat)(ts:List Nat){X:Type}(S:X->List AV×List AObj)(I:X->Prop)(ms:X->Nat)(x:X)(K:AExit->D->St->Prop)(e:AExit)(d:D)(s:St):Prop:=match e with
 | .normal=>pre m d s fun _ s=>match Nat.beq s.tmps.n n,pd s.tmps ts,ed s.heap s.heap.n 0 with
  |true,some vs,some os=>Nx I ms S x (vs,os)
  |_,_,_=>False
 |e=>K e d s
def unK(b:WC)(K:AExit->D->St->Prop):Nat->AExit->D->St->Prop
 |0,e,d,s=>match e with| .normal=>False|e=>K e d s
 |n+1,e,d,s=>match e with| .normal=>b.run d s (unK b K n)|e=>K e d s
def WG(b:WC)(d:D)(s:St)(K:AExit->D->St->Prop):Prop:=match d with
 | .loop _ ts S I ms x0 db=>match pd s.tmps ts,ed s.heap s.heap.n 0 with
  |some vs,some os=>(vs,os)=S x0/\I x0/\∀x,I x->b.run (db x) (T4 s.tmps.n ts (S x)) (zf m s.tmps.n ts S I ms x K)
  |_,_=>False
 | .loop2 _ _ ts S S' I I' ms ms' x0 db db'=>match pd s.tmps ts,ed s.heap s.heap.n 0 with
  |some vs,some os=>(vs,os)=Sum.elim S S' x0/\Sum.elim I I' x0/\
   (∀x,I x->b.run (db x) (T4 s.tmps.n ts (S x)) (zf m s.tmps.n ts (Sum.elim S S') (Sum.elim I I') (Sum.elim ms ms') (.inl x) K))/\
   (∀x,I' x->b.run (db' x) (T4 s.tmps.n ts (S' x)) (zf m s.tmps.n ts (Sum.elim S S') (Sum.elim I I') (Sum.elim ms ms') (.inr x) K))
  |_,_=>False
 | .un n d'=>b.run d' s (unK b K n)
 |_=>False
def WP:Code->WC
 | .skip | .label _=>⟨fun d s K=>K .normal d s⟩
 | .region _ ops draw=>match draw with
  |false=>⟨fun d s K=>ZK P G call m ops ops.toList d s (K .normal)⟩
  |true=>⟨fun d s K=>pre m d s fun d s=>match EG P G ops with
   |true=>ZV P G call ops (dS ops.toList 0 []) ops.toList 0 d s.tmps s.heap [] (K .normal)
   |false=>False⟩
 | .seq a b=>⟨fun d s K=>aaY m (WP a) (WP b) d s K⟩
 | .cond c a b=>⟨fun d s K=>pre m d s fun d s=>WPc ((cj G c).run s.tmps) d (fun d=>(WP a).run d s K) (fun d=>(WP b).run d s K)⟩
 | .block id b=>⟨fun d s K=>(WP b).run d s (Zo id K)⟩
 | .loop b=>⟨fun d s K=>pre m d s fun d s=>WG m (WP b) d s K⟩
 | .exit id=>⟨fun d s K=>K (.exit id) d s⟩
 | .scope b=>⟨fun d s K=>(WP b).run d s K⟩
 | .ret=>⟨fun d s K=>K .ret d s⟩
 |_=>⟨fun _ _ _=>False⟩
end
def EH(P:Program)(m:Nat)(res:List ResultVar)(Ψ:AV->AHeap->Prop)(e:AExit)(d:D)(s:St):Prop:=match e with
 | .exit _=>False
 |_=>pre m d s fun _ s=>match fW (fV P res s.tmps s.heap)with
  |some u=>Ψ u s.heap
  |none=>False
end
theorem Nx.mk{X:Type}{I:X->Prop}{m:X->Nat}{S:X->List AV×List AObj}{x:X}(y:X)(h1:I y)(h2:m y<m x):Nx I m S x (S y):=⟨y,h1,h2,rfl⟩
section
variable{P:Program}{G:eB}{call:cJ}{m:Nat}{ops:Array Oper}{l:List Oper}{o:Oper}{s s':St}{h h':AHeap}{v:AV}{A A' F:Fr}{f:FuncId}{args:List AV}{c:Code}{n t:Nat}
theorem RT{g:Option (Option Tmp×Bool)}(h:B7 A g=.yes):ez A g=some true:=by
 unfold B7 at h;split at h
 ·rfl
 all_goals grind
theorem Vg{g:Option (Option Tmp×Bool)}(h:B7 A g=.no):ez A g=some false:=by
 unfold B7 at h;split at h
 ·grind
 ·grind[ez]
 ·simp[ez]
theorem R0{b want:Bool}{g:Option (Option Tmp×Bool)}(h:B7 A g=.sym b want):ez A g=some (b==want):=by
 unfold B7 at h;split at h
 ·grind
 ·split at h
  ·rename_i d w b' q;cases h
   simp only[ez,q];cases b<;>cases want<;>rfl
  all_goals simp_all
 grind
theorem Gr{want:Bool}{a b:Prop}{Q:Prop}(h:uz want a b)(ha:want=true->a->Q)(hb:want=false->b->Q):Q:=by
 cases want
 ·exact hb rfl h
 ·exact ha rfl h
theorem Ti{g:Option (Option Tmp×Bool)}{d:D}{y n:D->Prop}{Q:Prop}(h:WPg (B7 A g) d y n)(hy:ez A g=some true->∀d,y d->Q)(hn:ez A g=some false->∀d,n d->Q):Q:=by
 cases hg:B7 A g with
 |yes=>rw[hg]at h;exact hy (RT hg) d h
 |no=>rw[hg]at h;exact hn (Vg hg) d h
 |bad=>rw[hg]at h;exact h.elim
 | sym b want=>
  rw[hg]at h;have e:=R0 hg;have t1:b=true->∀d,uz want (y d) (n d)->Q:=by
   intro hb d hp;subst hb;refine Gr hp (fun hw k=>hy (by simp_all) d k) (fun hw k=>hn (by simp_all) d k)
  have t2:b=false->∀d,uz want (n d) (y d)->Q:=by
   intro hb d hp;subst hb;refine Gr hp (fun hw k=>hn (by simp_all) d k) (fun hw k=>hy (by simp_all) d k)
  cases d<;>simp only[WPg]at h
  case tt d'=>grind
  case ff d'=>grind
  case br d1 d2=>
   cases hb:b with
   |true=>grind
   |false=>grind
  all_goals
   cases hb:b with
   |true=>rw[hb]at h;exact t1 hb _ h
   |false=>rw[hb]at h;exact t2 hb _ h
theorem bo{dst:Option Tmp}{K:Fr->Prop}(h:kG A dst v K):∃A',ie A dst v=some A'/\K A':=by grind[kG]
theorem j8{r:Option ARes}{K:FuncId->List AV->Prop}(h:lP r K):∃f args,r=some (.call f args)/\K f args:=by
 unfold lP at h;grind
theorem jX{n:Nat}:∀{k:Nat},nc h n k->fw h n k=true
 |0,_=>rfl
 |k+1,hc=>by
  simp only[nc]at hc;simp only[fw];cases hg:h.get k with
  |none=>rw[hg]at hc;exact jX hc
  |some o=>rw[hg]at hc;simp only[hc.1];exact jX hc.2
theorem Uj{ids pl:List Nat}{is:List Nat}{K:List AObj->Prop}(e:Qi h ids pl is K):∃os,K os/\os.length=is.length/\∀(j:Nat)(o':AObj),os[j]?=some o'->∃o,h.get (f8 is j)=some o/\kU (f8 ids) o'=o/\o'.top<=ids.length:=by
 induction is generalizing K with
 |nil=>exact⟨[],e,rfl,fun j o' h=>by simp_all⟩
 | cons x r ih=>
  simp only[Qi]at e;split at e
  ·rename_i o ho;split at e
   ·obtain⟨h0,e⟩:=e;obtain⟨os,k1,k2,k3⟩:=ih e;refine⟨o::os,k1,by simp_all,fun j o' hj=>?_⟩;cases j with
    |zero=>simp at hj;subst hj;exact⟨o,ho,Jc _ o h0,by omega⟩
    |succ j=>exact k3 j o' (by simp_all)
   ·split at e
    ·rename_i hw;obtain⟨os,k1,k2,k3⟩:=ih e;refine⟨_::os,k1,by simp_all,fun j o' hj=>?_⟩;cases j with
     |zero=>simp at hj;subst hj;exact⟨o,ho,NN o hw⟩
     |succ j=>exact k3 j o' (by simp_all)
    simp_all
  simp_all
theorem CB:∀{l:List AV},EV l=true->∀y,y∈l->cN y=true
 |x::r,h,y,hy=>by
  simp only[EV,bz]at h;rcases dO.1 hy with rfl|hy
  ·simp_all
  ·exact CB h.2 y hy
theorem IH{α:Type}(d:Nat):∀(t:Tr α)(n:Nat)(x:α)(m:Nat)(y:α),n+1<2^d->m≠n->t.get m=some y->(Tr.set d t n x).get m=some y:=by
 induction d with
 |zero=>omega
 | succ d ih=>
  intro t n x m y hn hne h;have hn2:∀k,n=k+1->k/2+1<2^d:=by omega
  cases t with
  |nil=>grind[fF]
  | node l v r=>
   cases n with
   |zero=>
    rw[oI];cases m with
    |zero=>omega
    |succ m=>grind[eN]
   | succ n=>
    have hb:=hn2 n rfl;rw[oL];cases m with
    |zero=>grind[mW]
    |succ m=>
     rw[eN]at h;by_cases hn:n%2=0
     ·rw[if_pos hn,eN];grind
     ·rw[if_neg hn,eN];grind
theorem oR{h:AHeap}{o o':AObj}{id k:Nat}(hn:id<1000000)(hne:k≠id)(hg:h.get k=some o'):(h.put id o).get k=some o':=by
 rw[AHeap.get_some]at hg ⊢;exact⟨hg.1,hg.2.1,IH 20 h.t id o k o' (by omega) hne hg.2.2⟩
theorem b7.obw{b:Option Nat}{i sz ep:Nat}{op:Bool}{v u:AV}(hg:s.heap.get i=some (.row sz op ep [v]))(hl:u.cells.length=v.cells.length)(hsc:∀y,y∈u.cells->cN y=true)(hle:∀(j:Nat)(y:AV),u.cells[j]?=some y->∃x:AV,v.cells[j]?=some x/\Le y x):
  b7 G b s ⟨s.tmps,s.heap.put i (.row sz op ep [u])⟩:=by
 have hi:=(AHeap.get_some.1 hg).2.1;intro N h0 pl0 M0 w0 a w hb ⟨⟨pl,M,g1,g2,g3,g4,g5⟩,k1,k2⟩;refine⟨⟨pl,M,g1,⟨g2.dom,fun id p o hp hgo=>?_,g2.blk,g2.inj,g2.imm,g2.sep⟩,g3,⟨g4.ext,g4.new,g4.mem,g4.size,g4.kept,g4.blks,fun id p hp hgo=>?_,g4.stay,g4.memNew,g4.os,g4.tape,g4.out,g4.drawn⟩,g5⟩,k1,k2⟩
 ·rcases AHeap.get_put hi hgo with⟨rfl,rfl⟩|⟨_,h2⟩
  ·have ho:=g2.obj _ p _ hp hg;generalize w.heap[p.blk]?=ob at ho
   match ob,ho with
   | some (.cells c t fr),ho=>
    obtain⟨e1,e2,e3,e4,e5,e6,e7,e8⟩:=ho;refine⟨e1,e2,e3,e4,e5,e6,e7,e8.fit,fun x hx=>?_,fun j x q y hj hq=>?_⟩
    ·simp only[ig]at hx;subst hx;exact⟨hl.trans (e8.elem v (eR ..)).1,hsc⟩
    ·cases j with
     |zero=>
      simp only[Cz,ve]at hj;subst hj;obtain⟨z,z1,z2⟩:=hle q y hq;exact z2 _ _ _ (e8.cell 0 v q z rfl z1)
     |succ j=>simp_all
  ·exact g2.obj id p o hp h2
 ·have:=g4.live id p hp hgo;cases hcp:(s.heap.put i (.row sz op ep [u])).get id with
  |none=>rfl
  |some o=>
   rcases AHeap.get_put hi hcp with⟨rfl,rfl⟩|⟨_,h2⟩
   all_goals simp_all
theorem IG(hG:iT G){m k i:Nat}{o0 o':AObj}{ts:List Nat}{L:List (Nat×AV)}{os:List AObj}(hm:m<=k)(hk:k<=s.heap.n)(hgi:s.heap.get i=some o0)
  (hO:∀(pl:Pl)(M:dl)(w:World)(p:Place),ct pl M s.heap w->pl i=some p->bb (dJ pl k) (lL pl M w k) p o' w.heap[p.blk]?)
  (hc:∀id o,id<k->(s.heap.put i .dead).get id=some o->o.top<=k)(e:Ev.frzL s.tmps s.heap k ts=some L)(ho:ed (s.heap.put i o') k 0=some os):b7 G (some m) s ⟨eZ s.tmps.n L,aa os⟩:=by
 have hi:=(AHeap.get_some.1 hgi).2.1;have e0:∀t u,(t,u)∈L->∃v,s.tmps.get t=some v/\Plain s.heap k v u:=fun t u h=>by grind[qO,Plain.frz]
 have key:b7 G (some m) s ⟨eZ s.tmps.n L,(s.heap.put i o').cut k⟩:=by
  intro N h0 pl0 M0 w0 a w hb ⟨⟨pl,M,g1,g2,g3,g4,g5⟩,k1,k2⟩;obtain⟨b1,b2⟩:=hb m rfl;have hlow:∀id p,pl0 id=some p->id<k:=fun id p hp=>Ft (b2 id p hp) hm
  have h1:ct pl M (s.heap.put i .dead) w:=⟨g2.dom,fun id2 p o hp hgo=>by
   rcases AHeap.get_put hi hgo with⟨rfl,rfl⟩|⟨_,h2⟩
   ·simp[bb]
   ·exact g2.obj id2 p o hp h2,g2.blk,g2.inj,g2.imm,g2.sep⟩
  have h2:ct (dJ pl k) (lL pl M w k) ((s.heap.put i .dead).cut k) w:=h1.dropped (n:=k) hk hc;have h3:ct (dJ pl k) (lL pl M w k) ((s.heap.put i o').cut k) w:=⟨h2.dom,fun id2 p o hp hgo2=>by
   obtain⟨z1,z2⟩:=iY (h:=s.heap.put i o') hk hgo2;obtain⟨hp1,hp2⟩:=aG.1 hp;rcases AHeap.get_put hi z2 with⟨rfl,rfl⟩|⟨z3,z4⟩
   ·simp_all
   ·have hcut:((s.heap.put i .dead).cut k).get id2=some o:=by
     have q3:=AHeap.get_some.1 (oR (h:=s.heap) (o:=.dead) hi z3 z4);exact AHeap.get_some.2 ⟨z1,q3.2.1,q3.2.2⟩
    exact h2.obj id2 p o hp hcut,h2.blk,h2.inj,h2.imm,h2.sep⟩
  refine⟨⟨dJ pl k,lL pl M w k,(g1.none hG).mono (nE.refl _) (fh k),h3,⟨g3.size,g3.defers,fun t u ht=>?_⟩,⟨?_,?_,?_,g4.size,g4.kept,?_,?_,?_,?_,g4.os,g4.tape,g4.out,g4.drawn⟩,by show h0.n<=k;omega⟩,k1,k2⟩
  ·obtain⟨v,q1,q2⟩:=e0 t u (uc ht);obtain⟨q3,q4⟩:=g3.at_ t v q1;exact⟨q3,q2 _ _ _ _ _ g2 (fh k) (fun id p sz op ep xs c t fr z1 z2 _ z4=>oF g2 z1 z2 z4) q4⟩
  ·intro id p hp;obtain⟨p',q1,q2⟩:=g4.ext id p hp;exact⟨p',aG.2 ⟨hlow id p hp,q1⟩,q2⟩
  ·intro id hid hp;have:=g4.new id hid hp;cases hcp:dJ pl k id with
   |none=>rfl
   |some q=>rw[(aG.1 hcp).2]at this;omega
  ·exact fun b c hb=>fh k b c (g4.mem b c hb)
  ·exact fun id p' hp'=>g4.blks id p' (aG.1 hp').2
  ·intro id2 p hp hg;have:=g4.live id2 p hp hg;cases hcp:((s.heap.put i o').cut k).get id2 with
   |none=>rfl
   |some o=>
    rcases AHeap.get_put hi (iY (h:=s.heap.put i o') hk hcp).2 with⟨rfl,rfl⟩|⟨_,z⟩
    all_goals simp_all
  ·exact fun id p hp hg=>aG.2 ⟨hlow id p hp,g4.stay id p hp hg⟩
  ·intro b c hb;rcases iL hb with q|⟨⟨id,p,q1,q2,q3⟩,_⟩
   ·exact g4.memNew b c q
   ·rcases g4.blks id p q2 with⟨p0,q4,_⟩|q4
    all_goals grind
 refine b7.trans key (b7.sub ⟨rfl,fun _ _ h=>h,?_,fun id o h=>?_⟩)
 ·obtain⟨q1,q2⟩:=dR k 0 os ho;show k<=(aa os).n
  grind[aa]
 ·obtain⟨q1,q2⟩:=dR k 0 os ho;have hx:=nL h;have h4:=q2 id o hx;rw[fL]at h4;have hlt:id<k:=by grind
  have h5:=AHeap.get_some.1 h4;exact AHeap.get_some.2 ⟨hlt,h5.2.1,h5.2.2⟩
theorem b7.fzo(hG:iT G){m k i sz ep' id ep off len sz2:Nat}{cap:Option Nat}{op op2:Bool}{xs ys:List AV}{ts:List Nat}{L:List (Nat×AV)}{os:List AObj}(hm:m<=k)(hk:k<=s.heap.n)
  (hgi:s.heap.get i=some (.row sz op ep' [.slice id ep off len cap]))(hid:k<=id)(hgo:s.heap.get id=some (.row sz2 op2 ep xs))(hy:(xs.drop off).take len=ys)(ht:aq ys=0)
  (hc:fw (s.heap.put i .dead) k k=true)(e:Ev.frzL s.tmps s.heap k ts=some L)(ho:ed (s.heap.put i (.row sz op ep' [.ls ys])) k 0=some os):b7 G (some m) s ⟨eZ s.tmps.n L,aa os⟩:=by
 refine IG hG hm hk hgi (fun pl M w p g2 hp2=>?_) (fun id o q1 q2=>gk k hc id o q1 q2) e ho;have hob:=g2.obj _ p _ hp2 hgi;generalize w.heap[p.blk]?=ob at hob
 match ob,hob with
 | some (.cells c t fr),hob=>
  obtain⟨e1,e2,e3,e4,e5,e6,e7,e8⟩:=hob;refine⟨e1,e2,e3,e4,e5,e6,e7,e8.fit,fun x hx=>?_,fun j x q y hj hq=>?_⟩
  ·simp only[ig]at hx;subst hx;exact⟨(e8.elem (.slice id ep off len cap) (eR ..)).1,fun y hy=>by simp only[AV.cells,ig]at hy;subst hy;rfl⟩
  ·cases j with
   | zero=>
    simp only[Cz,ve]at hj;subst hj;cases q with
    |zero=>
     simp only[AV.cells,Cz,ve]at hq;subst hq;have hv:=e8.cell 0 _ 0 _ rfl rfl;exact .lsp (Plain.slice hgo hid hy ht pl M (lL pl M w k) w _ g2 (fh k) (fun id p sz op ep xs c t fr z1 z2 _ z4=>oF g2 z1 z2 z4) hv).loose ht
    |succ q=>grind[AV.cells]
   |succ j=>simp_all
theorem b7.fza(hG:iT G){m k i j sz ep':Nat}{op:Bool}{cs ys:List AV}{ts:List Nat}{L:List (Nat×AV)}{os:List AObj}(hm:m<=k)(hk:k<=s.heap.n)
  (hgi:s.heap.get i=some (.row sz op ep' [.agg cs]))(v:AV)(hj:jo cs j=some v)(hvs:cN v=true)(hpl:∀(pl:Pl)(M Md:dl)(w:World)(x:Value),ct pl M s.heap w->qW M Md->(∀id p sz op ep xs c t fr,k<=id->pl id=some p->s.heap.get id=some (.row sz op ep xs)->w.heap[p.blk]?=some (.cells c t fr)->Md p.blk=some c)->VRel pl M v x->VRel (dJ pl k) Md (.ls ys) x)
  (hik:i<k)(hc:fw (s.heap.put i (.row sz op ep' [.agg (cs.set j (.ls ys))])) k k=true)(e:Ev.frzL s.tmps s.heap k ts=some L)(ho:ed (s.heap.put i (.row sz op ep' [.agg (cs.set j (.ls ys))])) k 0=some os):b7 G (some m) s ⟨eZ s.tmps.n L,aa os⟩:=by
 have hi:=(AHeap.get_some.1 hgi).2.1;have hcl:=fun id o q1 q2=>gk k hc id o q1 q2
 have htop:aq (cs.set j (.ls ys))<=k:=by
  obtain⟨q1,q2⟩:=dR k 0 os ho;have hx:os[i]?=some os[i]:=kE (by omega);have h4:=q2 i _ hx;rw[fL]at h4;rcases AHeap.get_put hi h4 with⟨_,h5⟩|⟨h5,_⟩
  ·grind[AObj.top,aq,AV.top,qD]
  omega
 refine IG hG hm hk hgi (fun pl M w p g2 hp2=>?_) (fun id o q1 q2=>?_) e ho
 ·have hob:=g2.obj _ p _ hp2 hgi;generalize w.heap[p.blk]?=ob at hob
  match ob,hob with
  | some (.cells c t fr),hob=>
   obtain⟨e1,e2,e3,e4,e5,e6,e7,e8⟩:=hob;have hel:=e8.elem (.agg cs) (eR ..);refine⟨e1,e2,e3,e4,e5,e6,e7,e8.fit,fun x hx=>?_,fun n x q y hn hq=>?_⟩
   ·simp only[ig]at hx;subst hx;refine⟨by grind[AV.cells],fun y hy=>?_⟩;simp only[AV.cells]at hy;rcases List.mem_or_eq_of_mem_set hy with h|h
    ·exact hel.2 y h
    ·subst h;rfl
   ·cases n with
    | zero=>
     simp only[Cz,ve]at hn;subst hn;simp only[AV.cells]at hq;rw[Cv]at hq;split at hq
     ·rename_i hqj;subst hqj;split at hq
      ·cases hq
       have hv:=e8.cell 0 _ j _ rfl (by rw[pz]at hj;exact hj);grind[fh,oF]
      grind
     ·rename_i hne;have hv:=e8.cell 0 _ q y rfl hq;refine hv.agree (n:=k) (dC.1 htop y (bh (i:=q) ?_)) dN (fh k);simp_all
    |succ n=>simp_all
 ·rcases AHeap.get_put hi q2 with⟨_,rfl⟩|⟨h1,h2⟩
  ·exact bA _
  grind[oR]
theorem eE{dst:Option Tmp}(h:ie A dst v=some A'):A'.n=A.n:=by
 cases dst with
 |none=>grind[ie]
 |some t=>
  have hp':A.put t v=some A':=h;grind[Fr.put]
theorem sN(hG:iT G){Q:Prop}:∀{d:D}{s:St}{K:D->St->Prop},s.tmps.n<=60000->pre m d s K->(∀d' s',s'.tmps.n=s.tmps.n->b7 G (some m) s s'->K d' s'->Q)->Q:=by
 intro d;induction d with
 | le t u d ih=>
  intro s K hn h k;simp only[pre]at h;split at h
  ·rename_i v hv;obtain⟨h1,h2⟩:=h;split at h2
   ·rename_i A' hp;have hn':A'.n=s.tmps.n:=by
     have hp':s.tmps.put t u=some A':=hp;grind[Fr.put]
    refine ih (by simp_all) h2 fun d' s' e1 e2 e3=>k d' s' (by simp_all) ?_ e3
    exact b7.trans (b7.put (A:=s.tmps) (h:=s.heap) hn hv h1 hp) e2
   simp_all
  simp_all
 | frz k0 ts d ih=>
  intro s K hn h k;simp only[pre]at h;split at h
  ·rename_i hck;simp only[bU,bz,decide_eq_true_eq]at hck;obtain⟨c1,c2⟩:=hck;obtain⟨c3,h⟩:=h;have c3:=jX c3;split at h
   ·rename_i L hL;split at h
    ·rename_i os ho;exact ih (s:=⟨eZ s.tmps.n L,aa os⟩) hn h fun d' s' e1 e2 e3=>k d' s' e1 (b7.trans (b7.frzL hG c1 c2 c3 hL ho) e2) e3
    simp_all
   simp_all
  simp_all
 |psh o d ih=>grind[pre,b7.trans,b7.psh]
 | frl k0 ts ls d ih=>
  intro s K hn h k;simp only[pre]at h;split at h
  ·rename_i hck;simp only[bU,bz,decide_eq_true_eq]at hck;obtain⟨c1,c2⟩:=hck;obtain⟨c3,c4,h⟩:=h;split at h
   ·rename_i L K' os hL hK ho;exact ih (s:=⟨eZ s.tmps.n (K'++L),aa os⟩) hn h fun d' s' e1 e2 e3=>k d' s' e1 (b7.trans (b7.frl hG c1 c2 (jX c3) hL hK c4 ho) e2) e3
   simp_all
  simp_all
 | fsl k0 ts t ys d ih=>
  intro s K hn h k;simp only[pre]at h;split at h
  ·rename_i hck;simp only[bU,bz,decide_eq_true_eq]at hck;obtain⟨c1,c2⟩:=hck;obtain⟨c3,h⟩:=h;have c3:=jX c3;split at h
   ·rename_i L id ep off len cap hL ht;split at h
    ·rename_i sz op ep' xs os hid hg ho;simp only[bU,decide_eq_true_eq]at hid;obtain⟨⟨rfl,q2,q3⟩,h⟩:=h;exact ih (s:=⟨eZ s.tmps.n ((t,.ps ys (oa cap (some len)))::L),aa os⟩) hn h fun d' s' e1 e2 e3=>k d' s' e1 (b7.trans (Pa hG c1 c2 c3 hL ho ht hid hg q2 q3) e2) e3
    simp_all
   simp_all
  simp_all
 | ren ids pl ts d ih=>
  intro s K hn h k;simp only[pre]at h;split at h
  ·rename_i hck;simp only[bz]at hck;split at h
   ·rename_i L hL;obtain⟨os,h,o1,o2⟩:=Uj (is:=ids) h;exact ih (s:=⟨eZ s.tmps.n L,aa os⟩) hn h fun d' s' e1 e2 e3=>k d' s' e1 (b7.trans (Py hG hck.1 hck.2 hL o1 o2) e2) e3
   simp_all
  simp_all
 | obj i o d ih=>
  intro s K hn h k;simp only[pre]at h;split at h
  ·rename_i o' ho;obtain⟨rfl,h⟩:=h;have hS:SubSt ⟨s.tmps,s.heap.put i o'⟩ s:=by
    refine⟨rfl,fun _ _ h=>h,af _,fun id o hh=>?_⟩;rcases AHeap.get_put (AHeap.get_some.1 ho).2.1 hh with⟨rfl,rfl⟩|⟨_,h2⟩
    all_goals omega
   exact ih (s:=⟨s.tmps,s.heap.put i o'⟩) hn h fun d' s' e1 e2 e3=>k d' s' e1 (b7.trans (b7.sub hS) e2) e3
  simp_all
 | obw i u d ih=>
  intro s K hn h k;simp only[pre]at h;split at h
  ·rename_i sz op ep v hg;split at h
   ·rename_i hck;simp only[bz,ao,decide_eq_true_eq]at hck;exact ih (s:=⟨s.tmps,s.heap.put i (.row sz op ep [u])⟩) hn h.2 fun d' s' e1 e2 e3=>k d' s' e1 (b7.trans (b7.obw hg hck.1.1 (CB hck.2) h.1) e2) e3
   simp_all
  simp_all
 | fzo i k0 ts ys d ih=>
  intro s K hn h k;simp only[pre]at h;split at h
  ·rename_i hck;simp only[bU,dm,bz,decide_eq_true_eq]at hck;split at h
   ·rename_i sz op ep' id ep off len cap hg;split at h
    ·rename_i sz2 op2 ep2 xs L os hid hgo hL ho;simp only[bU,decide_eq_true_eq]at hid;obtain⟨c3,⟨rfl,q2,q3⟩,h⟩:=h;exact ih (s:=⟨eZ s.tmps.n L,aa os⟩) hn h fun d' s' e1 e2 e3=>k d' s' e1 (b7.trans (b7.fzo hG hck.1.1 hck.1.2 hg hid hgo q2 q3 (jX c3) hL ho) e2) e3
    simp_all
   simp_all
  simp_all
 | fza i j k0 ts ys d ih=>
  intro s K hn h k;simp only[pre]at h;split at h
  ·rename_i hck;simp only[bU,dm,bz,decide_eq_true_eq]at hck;split at h
   ·rename_i sz op ep' cs hg;split at h
    ·rename_i id ep off len cap hj;split at h
     ·rename_i sz2 op2 ep2 xs L os hid hgo hL ho;simp only[bU,decide_eq_true_eq]at hid;obtain⟨c3,⟨rfl,q2,q3⟩,h⟩:=h;exact ih (s:=⟨eZ s.tmps.n L,aa os⟩) hn h fun d' s' e1 e2 e3=>k d' s' e1 (b7.trans (b7.fza hG hck.1.1 hck.1.2 hg _ hj rfl (fun pl M Md w x a1 a2 a3 a4=>.lsp (Plain.slice hgo hid q2 q3 pl M Md w x a1 a2 a3 a4).loose q3) hck.2 (jX c3) hL ho) e2) e3
     simp_all
    ·rename_i id ep len cap hj;split at h
     ·rename_i sz2 op2 ep2 xs L os hid hgo hL ho;simp only[bU,decide_eq_true_eq]at hid;obtain⟨c3,⟨rfl,q2,q3⟩,h⟩:=h;exact ih (s:=⟨eZ s.tmps.n L,aa os⟩) hn h fun d' s' e1 e2 e3=>k d' s' e1 (b7.trans (b7.fza hG hck.1.1 hck.1.2 hg _ hj rfl (fun pl M Md w x a1 a2 a3 a4=>Plain.sl0 hgo hid q2 q3 pl M Md w x a1 a2 a3 a4) hck.2 (jX c3) hL ho) e2) e3
     simp_all
    simp_all
   simp_all
  simp_all
 |cs T l a b iha ihb=>
  intro s K hn h k;simp only[pre]at h;cases hl:l with
  |nil=>grind
  |cons w r=>grind
 |bs t a b iha ihb=>
  intro s K hn h k;simp only[pre]at h;cases ht:t with
  |true=>grind
  |false=>grind
 |abs=>intro s K hn h k;exact h.elim
 |fin|go _ _ _|val _ _ _|opv _ _ _ _|elem _ _ _|chr _ _ _|app _ _|pk _ _ _|efd _ _ _|efx _ _ _ _|look _ _ _|upd _ _ _ _|pure _ _ _|asl _ _ _|rix _ _|rld _ _ _|rst _ _ _ _|eff _ _ _ _ _ _|nxt _ _ _ _ _ _ _ _ _|ent _ _ _|nz _ _ _ _ _|slc _ _|slp _ _ _|apx _ _ _|apl _ _|tt _ _|ff _ _|br _ _ _ _|un _ _ _|inn _ _|join _ _ _ _ _ _ _ _|loop _ _ _ _ _ _ _ _|loop2 _ _ _ _ _ _ _ _ _ _ _ _ _ _=>
  intro s K hn h k;exact k _ s rfl (b7.refl s) h
theorem am.bounded{b:Option Nat}{Φ:AExit->St->Prop}(h:s.tmps.n<=60000->am P G b c s Φ):am P G b c s Φ:=fun N h0 pl0 M0 w0 a w Q hb hs hQ=>h (by grind[cases SNow]) N h0 pl0 M0 w0 a w Q hb hs hQ
theorem b8.bounded{b:Option Nat}{Φ:St->Prop}(h:s.tmps.n<=60000->b8 P G b ops l s Φ):b8 P G b ops l s Φ:=fun i N h0 pl0 M0 w0 a w Q hb hl hs hQ=>h (by grind[cases SNow]) i N h0 pl0 M0 w0 a w Q hb hl hs hQ
theorem Si{op:Op}{xs:List AV}{i s:Nat}{x:AV}(e:H6 P G op A=some (xs,i,s))(hx:jo xs i=some x)(hs:Nat.beq x.cells.length s=true):∃xs' i',(eT P G op).run A h=some (.val (.pptr xs' i' 0) h)/\jo xs' i'=some x:=by
 unfold H6 at e;split at e
 ·rename_i t y ix;split at e
  ·rename_i el hu;split at e
   ·rename_i s0 hsz;split at e
    ·rename_i ys k hl hi;simp only[ve,tu]at e;obtain⟨rfl,rfl,rfl⟩:=e;refine⟨ys,k,?_,hx⟩;simp only[eT,hu,hsz];cases hv:(cj G y).run A with
     |none=>rw[hv]at hl;cases hl
     | some v=>
      cases hj:(cj G ix).run A with
      |none=>rw[hj]at hi;cases hi
      |some iv=>
       rw[hj]at hi;have hi:fP iv=some k:=hi;rw[hv]at hl;cases v<;>simp only[ZI,ve,reduceCtorEq]at hl
       all_goals grind[lF,jp,bc]
    grind
   grind
  grind
 grind
theorem xl{op:Op}{x:AV}{K:Prop}(e:uO (H6 P G op A) x K):(∃xs i,(eT P G op).run A h=some (.val (.pptr xs i 0) h)/\jo xs i=some x)/\K:=by
 unfold uO at e;split at e
 ·rename_i xs i s he;split at e
  ·rename_i hs;exact⟨Si he e.1 hs,e.2⟩
  simp_all
 simp_all
theorem KE{op:Op}{c:UInt8}{K:Prop}(e:FW (YG P G op A) c K):(eT P G op).run A h=some (.val (.int .u8 (.ofNat c.toNat)) h)/\K:=by
 unfold FW at e;split at e
 ·rename_i s i he;refine⟨?_,e.2⟩;unfold YG at he;split at he
  ·rename_i t y ix;split at he
   ·rename_i hu;split at he
    ·rename_i s' k hv hi;simp only[ve,tu]at he;obtain⟨rfl,rfl⟩:=he;simp only[eT,hu];cases hj:(cj G ix).run A with
     |none=>rw[hj]at hi;cases hi
     |some iv=>
      rw[hj]at hi;have hi:fP iv=some k:=hi;grind[Is,bc]
    grind
   grind
  grind
 simp_all
theorem xZ{op:Op}{v:AV}{K:Prop}(e:uf op h (pw P G op A) v K):(eT P G op).run A h=some (.val v h)/\K:=by
 unfold uf at e;split at e
 ·rename_i l hi hl;split at e
  ·rename_i es c hg;refine⟨?_,e.2⟩;have e1:=e.1;cases op<;>simp only[Ri,reduceCtorEq]at hi
   rename_i t m k ok;simp only[pw]at hl;grind[eT,ue,bc]
  simp_all
 simp_all
theorem zh{op:Op}{K:AV->Prop}(e:yq (LA P G op A h) K):∃v,(eT P G op).run A h=some (.val v h)/\K v:=by
 unfold yq at e;split at e
 ·rename_i q he;obtain⟨⟨e1,e2⟩,e3⟩:=e;refine⟨_,?_,e3⟩;unfold LA at he;split at he
  ·rename_i t x ix;split at he
   ·rename_i el hu;split at he
    ·rename_i s0 hsz;split at he
     ·rename_i id ep off len c k hv hi;split at he
      ·rename_i sz op' ep1 xs hg;split at he
       ·rename_i hb;cases he
        simp only at e1 e2;subst e1;cases hj:(cj G ix).run A with
        |none=>rw[hj]at hi;cases hi
        |some iv=>
         rw[hj]at hi;have hi:fP iv=some k:=hi;have hlt:Nat.blt k len=true:=by simp_all
         have hb':(Nat.beq sz (s0+1)&&Nat.beq ep ep)=true:=by simp_all
         have ha:Fj off k=off+k:=by unfold Fj;grind
         simp only[eT,hu,hsz,hv,hj,lF,jp,hi,qh,hg,hb',hlt,bc,ha]
       grind
      grind
     ·rename_i id ep len c k hv hi;split at he
      ·rename_i sz op' ep1 xs hg;split at he
       ·rename_i hb;cases he
        simp only at e1 e2;subst e1;cases hj:(cj G ix).run A with
        |none=>rw[hj]at hi;cases hi
        |some iv=>
         rw[hj]at hi;have hi:fP iv=some k:=hi;have hlt:Nat.blt k len=true:=by simp_all
         have hb':(Nat.beq sz (s0+1)&&Nat.beq ep ep)=true:=by simp_all
         have ha:Fj 0 k=0+k:=by grind[Fj]
         simp only[eT,hu,hsz,hv,hj,lF,jp,hi,qh,hg,hb',hlt,bc,ha]
       grind
      grind
     grind
    grind
   grind
  grind
 simp_all
theorem yk{x:Option Operand}{d n:Nat}{k:Option AV->Option AV}(e:OY G A d x=some n):∃w,qt G x A k=k w/\jK d w=some n:=by
 cases x with
 |none=>exact⟨none,rfl,e⟩
 |some x=>
  simp only[OY,Rc]at e;cases hx:(cj G x).run A with
  |none=>grind
  |some v=>rw[hx]at e;exact⟨some v,by grind[qt],e⟩
theorem zy{op:Op}{ys:List AV}{K:AV->Prop}(e:yK (Lc P G op A) ys K):∃v,(∀h,(eT P G op).run A h=some (.val v h))/\K v:=by
 unfold yK at e;split at e
 ·rename_i q he;obtain⟨⟨e1,⟨e2,e4⟩,e5⟩,e3⟩:=e;refine⟨_,fun h=>?_,e3⟩;unfold Lc at he;split at he
  ·rename_i t x lo hi;split at he
   ·rename_i el hu;split at he
    ·rename_i s0 hsz;split at he
     ·rename_i xs hv;split at he
      ·rename_i l hh hl hhi;cases he
       simp only at e1 e2 e4 e5;subst e5;have hc:(Nat.ble l hh&&Nat.ble hh xs.length)=true:=by simp_all
       obtain⟨w1,o1,n1⟩:=yk (k:=fun lo=>qt G hi A fun hi=>qt G none A fun mx=>dq (s0+1) h ((cj G x).run A) lo hi mx) hl;obtain⟨w2,o2,n2⟩:=yk (k:=fun hi=>qt G none A fun mx=>dq (s0+1) h ((cj G x).run A) w1 hi mx) hhi;simp only[eT,hu,hsz];rw[o1,o2];simp only[qt,dq,hv,gV,e1,n1,n2,u0,hc,GR,bc]
      grind
     grind
    grind
   grind
  grind
 simp_all
theorem za{op:Op}{K:AV->Prop}(e:yV (Ld P G op A h) K):∃v,(eT P G op).run A h=some (.val v h)/\K v:=by
 unfold yV at e;split at e
 ·rename_i q he;obtain⟨⟨e1,e2,e4⟩,e3⟩:=e;refine⟨_,?_,e3⟩;unfold Ld at he;split at he
  ·rename_i t x lo hi;split at he
   ·rename_i el hu;split at he
    ·rename_i s0 hsz;split at he
     ·rename_i id ep off len hv;split at he
      ·rename_i l hh sz op' ep1 xs hl hhi hg;split at he
       ·rename_i hb;cases he
        simp only at e1 e2 e4;subst e1;have ha:∀k,Fj off k=off+k:=fun k=>by unfold Fj;grind
        have hs:Xe hh l=hh-l:=by unfold Xe;grind
        rw[ha]at e4;have hb':(Nat.beq sz (s0+1)&&Nat.beq ep ep)=true:=by simp_all
        have hc:(Nat.ble l hh&&Nat.ble hh (room xs.length off none))=true:=by simp only[room,bU,bz,decide_eq_true_eq];omega
        obtain⟨w1,o1,n1⟩:=yk (k:=fun lo=>qt G hi A fun hi=>qt G none A fun mx=>dq (s0+1) h ((cj G x).run A) lo hi mx) hl;obtain⟨w2,o2,n2⟩:=yk (k:=fun hi=>qt G none A fun mx=>dq (s0+1) h ((cj G x).run A) w1 hi mx) hhi;simp only[eT,hu,hsz];rw[o1,o2];simp only[qt,dq,hv,gV,qh,hg,hb',n1,n2,pP,hc,bc,ha,hs]
       grind
      grind
     grind
    grind
   grind
  grind
 simp_all
theorem zg{op:Op}{x:AV}{K:AV->Prop}(e:yU (Lu P G op A h) x K):∃v,(eT P G op).run A h=some (.val v h)/\K v:=by
 unfold yU at e;split at e
 ·rename_i q he;split at e
  ·rename_i v hp;obtain⟨⟨e1,e2⟩,e3⟩:=e;refine⟨_,?_,e3⟩;unfold Lu at he;split at he;all_goals grind[eT,Ay,zC,bc,Nat.beq_refl]
  simp_all
 simp_all
theorem zd{op:Op}{x:AV}{xs':List AV}{K:AHeap->Prop}(e:yY h (Lr P G op A h) x xs' K):∃h',(eT P G op).run A h=some (.val gj h')/\K h':=by
 unfold yY at e;split at e
 ·rename_i q he;split at e
  ·rename_i y hp;obtain⟨⟨e1,e2,e4⟩,e3⟩:=e;refine⟨_,?_,e3⟩;unfold Lr at he;split at he
   ·rename_i t a b;split at he
    ·rename_i n h1;split at he
     ·rename_i id ep i off v hv hb;split at he
      ·rename_i sz op' ep1 xs hg;split at he
       ·rename_i hf;cases he
        simp_all[eT,sC,vD]
       grind
      grind
     grind
    grind
   grind
  simp_all
 simp_all
theorem TG{es:List AEnt}{c:Nat}{k v:AV}{id:Nat}{r:Option (Option (Nat×AEnt))}{es':List AEnt}{c':Nat}(e:rT es c k v r=some (es',c')):yZ h id es c k v r=some (h.put id (.map es' c')):=by
 unfold rT at e;grind[yZ]
theorem y7{op:Op}{es':List AEnt}{c':Nat}{K:AHeap->Prop}(e:yX op h (pw P G op A) es' c' K):∃h',(eT P G op).run A h=some (.val gj h')/\K h':=by
 unfold yX at e;split at e
 ·rename_i l hi hl;split at e
  ·rename_i es c hg;refine⟨_,?_,e.2⟩;have e1:=TG (h:=h) (id:=l.id) e.1;have key:∀(t:TypeId)(m k x:Operand),pw P G (.mapUpdate t m k x) A=some l->(eT P G (.mapUpdate t m k x)).run A h=some (.val gj (h.put l.id (.map es' c'))):=by
    intro t m k x hl;simp only[pw]at hl;split at hl
    ·rename_i kt el hu;split at hl
     ·rename_i ag sz lv h1 h2 h3;split at hl
      ·rename_i id kk xx hm hk hx;split at hl
       ·rename_i hkr;cases hl
        simp only[eT,hu,h1,h2,h3,hm,hk,hx,rx,hkr,hg];rw[e1];rfl
       grind
      grind
     grind
    grind
   cases op<;>simp only[WL,reduceCtorEq]at hi
   ·exact key _ _ _ _ hl
   simp_all
  simp_all
 simp_all
theorem CH{op:Op}{w:Bool}{K:AV->Prop}(e:Ew w (pkR G w op A) K):∃v,(eT P G op).run A h=some (.val v h)/\K v:=by
 unfold Ew at e;split at e
 ·rename_i t v he;refine⟨v,?_,e.2⟩;have e1:=e.1;subst e1;unfold pkR at he;split at he
  ·rename_i c a b;split at he
   ·rename_i t' hc;cases t<;>simp only[]at he<;>split at he<;>first|(cases he;done)|skip
    all_goals
     rename_i u hu;simp only[ve,tu]at he;obtain⟨rfl,rfl⟩:=he;simp only[eT,hc,LF,hu,bc]
   grind
  grind
 simp_all
theorem KR {op:Op}{K:AV->AHeap->Prop}(e:Fq h (TZ P G op A h) K):∃v h',(eT P G op).run A h=some (.val v h')/\K v h':=by
 unfold Fq at e;split at e
 ·rename_i a ha;split at e
  ·rename_i sz ep xs hg;split at e
   ·rename_i hsz;obtain⟨⟨e1,e2,e3⟩,hK⟩:=e;refine⟨_,_,?_,hK⟩;unfold TZ at ha;split at ha
    ·rename_i args argTypes;split at ha
     ·rename_i s x hargs;split at ha
      ·rename_i el te hel hts;split at ha
       ·rename_i i hinfo;split at ha
        ·rename_i sz0 z hisz hz;split at ha
         ·rename_i hzz;unfold aaw at ha;split at ha
          ·rename_i id ep0 len x0 hs hx;split at ha
           ·rename_i y ys hsrc;split at ha
            ·rename_i hfit;cases ha
             simp only[]at e1 e2 e3 hsz hg;subst e1;have hbeq:Nat.beq ep0 ep0=true:=qV _;have hsz':Nat.beq (sz0+1) sz=true:=by simp_all
             have hble:Nat.ble (0+len+(y::ys).length) xs.length=false:=by grind[bU]
             simp_all[eT,iK,dc,gy,gT,fq]
            grind
           grind
          grind
         grind
        grind
       grind
      grind
     grind
    grind
   simp_all
  simp_all
 simp_all
theorem Bi {op:Op}{K:AV->AHeap->Prop}(e:yp h (Na P G op A h) K):∃v h',(eT P G op).run A h=some (.val v h')/\K v h':=by
 unfold yp at e;split at e
 ·rename_i a ha;obtain⟨⟨hne,hfit⟩,e⟩:=e;unfold Na at ha;split at ha
  ·rename_i args argTypes;split at ha
   ·rename_i s x hargs;split at ha
    ·rename_i el te hel hts;split at ha
     ·rename_i i hinfo;split at ha
      ·rename_i sz0 z hisz hz;split at ha
       ·rename_i hzz;unfold aax at ha;split at ha
        ·rename_i sv xv hs hx;split at ha
         ·rename_i ys hsrc;cases ha
          simp only[]at hne hfit e;obtain⟨y,yr,rfl⟩:∃y yr,ys=y::yr:=by
           cases ys with
           |nil=>simp_all
           |cons y yr=>simp_all
          split at e
          ·refine⟨_,_,?_,e.2⟩;simp_all[eT,iK,dc,gy,gT,ic,fq]
          ·refine⟨_,_,?_,e.2⟩;have e1:small (([]:List AV).length+(y::yr).length) i.bytes=true:=by simp_all
           have e2:dA (sz0+1) ([]:List AV)=true:=rfl;simp only[eT,hargs,iK,hel,hts,hinfo,hisz,hz,hzz,hs,hx,dc,gy,hsrc,gT,hfit,e1,e2,Bool.and_true,ic,yG,fq]
          ·rename_i z0 zs;obtain⟨⟨e1,e2⟩,hK⟩:=e;refine⟨_,_,?_,hK⟩;simp only[eT,hargs,iK,hel,hts,hinfo,hisz,hz,hzz,hs,hx,dc,gy,hsrc,gT,hfit,e1,e2,Bool.and_true,ic,fq]
          ·rename_i id ep0 len;split at e
           ·rename_i sz ep xs hg;split at e
            ·rename_i hsz;obtain⟨⟨e1,e2,e3⟩,hK⟩:=e;refine⟨_,_,?_,hK⟩;subst e1;have hbeq:Nat.beq ep0 ep0=true:=qV _;have hsz':Nat.beq (sz0+1) sz=true:=by simp_all
             have hble:Nat.ble (0+len+(y::yr).length) xs.length=false:=by grind[bU]
             simp_all[eT,iK,dc,gy,gT,fq]
            simp_all
           simp_all
          simp_all
         grind
        grind
       grind
      grind
     grind
    grind
   grind
  grind
 simp_all
theorem Kq{op:Op}{v:AV}{K:Prop}(e:ET G op A h v K):(eT P G op).run A h=some (.val v h)/\K:=by
 unfold ET at e;split at e
 ·rename_i it;split at e
  ·rename_i id hx;split at e
   ·rename_i m clock seen h1;split at e
    ·grind[Nat.beq_refl,eT,ES,bc]
    simp_all
   simp_all
  simp_all
 simp_all
theorem Ia(n:Nat)(hn:0<n)(w:World):∃k w1,k<n/\(choose (.mapNext n)).run P w=.ok k w1/\w1.heap=w.heap/\WSame w w1:=by
 by_cases hf:n<=1
 ·exact⟨0,w,hn,by grind[choose,Sem.run,Question.forced],rfl,WSame.refl w⟩
 ·exact⟨(w.tape w.drawn (.mapNext n))%n,{w with drawn:=w.drawn+1},Nat.mod_lt _ hn,by grind[choose,Sem.run,Question.forced,Question.cut],rfl,rfl,rfl,rfl,nG _⟩
theorem Gc{pl:Pl}{M:dl}{w:World}{es:List AEnt}{r blk clock:Nat}{entries:Array MapEntry}{seen':Array Nat}{seen:List Nat}{t:TypeId}
  (hb:w.heap[blk]?=some (.mapIter (some r) clock seen' clock))(hbm:w.heap[r]?=some (.map entries clock))(hen:EntsRel pl M es entries.toList)(hs:seen'.toList=seen)(hlt:∀e,e∈es->e.born<clock):
  (∀e,e∈es->e.born∈seen)/\(Instr.next (.pointer (some ⟨blk,0,none⟩)) false t).run P w=.ok (.tuple #[.bool false]) w\/
  ∃(e:AEnt)(e':MapEntry)(w':World),e∈es/\e.born∉seen/\VRel pl M e.key e'.key/\VRel pl M e.val e'.val/\(Instr.next (.pointer (some ⟨blk,0,none⟩)) false t).run P w=.ok (.tuple #[.bool true,e'.key,e'.val]) w'/\
   w'.heap=w.heap.setIfInBounds blk (.mapIter (some r) clock (seen'.push e.born) clock)/\WSame w w':=by
 subst hs;have hgi:(getObj blk).run P w=.ok (.mapIter (some r) clock seen' clock) w:=by grind[getObj,Sem.run]
 have hgm:(getObj r).run P w=.ok (.map entries clock) w:=by grind[getObj,Sem.run]
 have back:∀e',e'∈entries->∃e,e∈es/\VRel pl M e.key e'.key/\VRel pl M e.val e'.val/\e'.born=e.born:=by
  intro e' hm;obtain⟨i,hi,e1⟩:=Array.getElem_of_mem hm;have h1:i<es.length:=by grind[cases EntsRel]
  obtain⟨e2,k1,k2⟩:=hen.at_ i es[i] (kE h1);grind
 have hall:∀e',e'∈entries->e'.born<clock:=fun e' hm=>by grind
 have hun:(!seen'.isEmpty&& !entries.isEmpty&&entries.all (fun x=>decide (x.born≥clock)))=false:=by
  cases he:entries.isEmpty with
  |true=>simp
  | false=>
   have:entries.all (fun x=>decide (x.born≥clock))=false:=by
    rw[Array.all_eq_false];have h0:0<entries.size:=by grind
    grind
   simp_all
 let left:=entries.filter fun e=>!seen'.contains e.born
 have hold:left.filter (fun x=>decide (x.born<clock))=left:=by grind[Array.filter_eq_self]
 have hnew:left.filter (fun x=>decide (x.born≥clock))=#[]:=by simp_all
 by_cases hl:left.size=0
 ·left;have hle:left=#[]:=Array.eq_empty_of_size_eq_zero hl;refine⟨fun e he=>?_,?_⟩
  ·obtain⟨i,hi,e1⟩:=CY he;obtain⟨e2,k1,_,_,k2⟩:=hen.at_ i e (by simp_all);have hm:e2∈entries:=by grind
   have:e2∉left:=by simp_all
   grind
  ·have hc:(entries.filter fun e=>!seen'.contains e.born)=#[]:=hle;simp only[Instr.next,Sem.run_bind,hgi,hgm,Result.andThen_ok,hun];simp only[fN,if_false,Sem.run_bind,Sem.run_pure,Result.andThen_ok];rw[hc];simp[choose,Sem.run,Question.forced]
 ·right;have hpos:0<left.size:=Nat.pos_of_ne_zero hl;obtain⟨k,w1,hk,hch,hw1,hs1⟩:=Ia (P:=P) left.size hpos w;have hm:left[k]∈left:=Array.getElem_mem hk;obtain⟨hm1,hm2⟩:=Array.mem_filter.1 hm;obtain⟨e,z1,z2,z3,z4⟩:=back _ hm1;have hni:e.born∉seen'.toList:=by simp_all
  have hgi1:∀o,(setObj blk o).run P w1=.ok () {w1 with heap:=w1.heap.setIfInBounds blk o}:=by grind[setObj,Sem.run]
  have hne:left.isEmpty=false:=by simp_all
  refine⟨e,left[k],{w1 with heap:=w1.heap.setIfInBounds blk (.mapIter (some r) clock (seen'.push e.born) clock)},z1,hni,z2,z3,?_,by simp_all,hs1.os,hs1.tape,hs1.out,hs1.drawn⟩;have hcand:((if left.isEmpty=true then#[none]else#[])++(left++(#[]:Array MapEntry)).map some)=left.map some:=by simp_all
  have hsz:(left.map some).size=left.size:=by simp
  have hgk:(left.map some)[k]?=some (some left[k]):=by simp_all
  simp only[Instr.next,Sem.run_bind,hgi,hgm,Result.andThen_ok,hun];simp only[fN,if_false,Sem.run_bind,Sem.run_pure,Result.andThen_ok];have hold2:(entries.filter fun e=>!seen'.contains e.born).filter (fun x=>decide (x.born<clock))=left:=hold;have hnew2:(entries.filter fun e=>!seen'.contains e.born).filter (fun x=>decide (x.born≥clock))=#[]:=hnew;rw[hold2,hnew2];simp_all
theorem K7{T:Type}{b:Option Nat}{k v:T->AV}{bn:T->Nat}{I:T->Prop}{K0:Prop}{K1:T->AHeap->Prop}{Φ:St->Prop}(hg:ez s.tmps (dT ops o)=some true)(e:zS G o.op s.tmps s.heap k v bn I K0 K1)
  (h0:K0->∃A',ie s.tmps o.dst (.tuple [.bool false])=some A'/\b8 P G b ops l ⟨A',s.heap⟩ Φ)
  (h1:∀y,I y->∀h',K1 y h'->∃A',ie s.tmps o.dst (.tuple [.bool true,k y,v y])=some A'/\b8 P G b ops l ⟨A',h'⟩ Φ):b8 P G b ops (o::l) s Φ:=by
 intro i N h0' pl0 M0 w0 a w Q hb hl' hs hQ;have ho:ops[i]?=some o:=by simpa using hl' 0
 obtain⟨pl,M,g1,g2,g3,g4,g5⟩:=hs.ex;simp only[cM,yF,wpOps,ho];rw[fQ g3 hg];simp only[if_true];left;obtain⟨dst,op,ty,pos,after,guard⟩:=o;unfold zS at e;split at e
 ·rename_i it hop;have hop:op=.next it false:=hop;subst hop;split at e
  ·rename_i id hx;have hxv:=bZ g1 g3 hx;split at e
   ·rename_i m clock seen hgo;split at e
    ·rename_i es clock' hgm;obtain⟨⟨rfl,e1⟩,e2,e3⟩:=e;have hrest:∀j,ops[i+1+j]?=l[j]?:=fun j=>by have:=hl' (j+1);grind
     generalize hq:a.eval it=cx at hxv;obtain⟨p,m',seen',hp,q1,q2,rfl,hbk,q3,q4⟩:=AX g2 hxv hgo;obtain⟨r,entries,rfl,hbm,hen⟩:=RY g2 q3 hgm;rcases Gc (P:=P) (t:=ty) hbk hbm hen q4 (fun x hx=>(e1 x hx).1)with⟨d1,d2⟩|⟨x,x',w',d1,d2,d3,d4,d5,d6,d7⟩
     ·obtain⟨A',e4,e5⟩:=h0 (e2 d1);obtain⟨p1,p2⟩:=ly (dst:=dst) (v:=.tuple [.bool false]) (x:=.tuple #[.bool false]) g3 (.tuple rfl fun j y hj=>by
       match j,hj with
       |0,hj=>simp at hj;subst hj;exact .bool _) (by rw[hs.n];exact hs.small) e4
      have key:SNow G N h0' pl0 M0 w0 ⟨A',s.heap⟩ (a.put dst (.tuple #[.bool false])) w:=⟨⟨pl,M,g1,g2,p1,g4,g5⟩,by rw[<-hs.n];omega,hs.small⟩
      have nxt:=e5 (i+1) N h0' pl0 M0 w0 _ w Q hb hrest key hQ;unfold Oper.wp;have:(execOp a.eval ⟨dst,.next it false,ty,pos,after,guard⟩).run P w=.ok (.value (.tuple #[.bool false])) w:=by simp_all[execOp]
      rw[this];exact nxt
     ·rcases(e1 x d1).2 with f1|⟨y,f1,f2,f3,f4⟩
      ·simp_all
      ·have hlt:=g2.blk id p hp;have hpe:upd pl id p=pl:=qw hp;have hch:=ct.change (w':=w') (o':=.miter (.map m) clock (seen++[bn y])) g2 hp hgo (p':=p) (.inl rfl) d7 (by simp_all) (fun b' _ hne=>by grind) (.inl rfl) (by simp_all)
        (by rw[hpe,d6];simp only[Array.getElem?_setIfInBounds_self_of_lt hlt];exact⟨q1,q2,q3,rfl,rfl,by simp_all⟩)
       rw[hpe]at hch;obtain⟨A',e4,e5⟩:=h1 y f1 _ (e3 y f1);have hrel:VRel pl M (.tuple [.bool true,k y,v y]) (.tuple #[.bool true,x'.key,x'.val]):=.tuple rfl fun j z hj=>by
        match j,hj with
        |0,hj=>simp at hj;subst hj;exact .bool _
        |1,hj=>simp_all
        |2,hj=>simp_all
       obtain⟨p1,p2⟩:=ly (dst:=dst) g3 hrel (by rw[hs.n];exact hs.small) e4;have key:SNow G N h0' pl0 M0 w0 ⟨A',s.heap.put id (.miter (.map m) clock (seen++[bn y]))⟩ (a.put dst (.tuple #[.bool true,x'.key,x'.val])) w':=⟨⟨pl,M,g1,hch.1,p1,g4.trans hch.2 g5,g5⟩,by rw[<-hs.n];omega,hs.small⟩
       have nxt:=e5 (i+1) N h0' pl0 M0 w0 _ w' Q hb hrest key hQ;unfold Oper.wp;have:(execOp a.eval ⟨dst,.next it false,ty,pos,after,guard⟩).run P w=.ok (.value (.tuple #[.bool true,x'.key,x'.val])) w':=by simp_all[execOp]
       rw[this];exact nxt
    simp_all
   simp_all
  simp_all
 simp_all
theorem b8.nz{b:Option Nat}{Φ:St->Prop}{t:Nat}{xs:List AV}{A1:Fr}(ht:s.tmps.get t=some (.ls xs))(p0:xs=[]->∃A0,ie s.tmps (some t) .nils=some A0/\b8 P G b ops l ⟨A0,s.heap⟩ Φ)
  (p1:ie s.tmps (some t) (.ps xs false)=some A1)(h1:b8 P G b ops l ⟨A1,s.heap⟩ Φ):b8 P G b ops l s Φ:=by
 intro i N h0' pl0 M0 w0 a w Q hb hl' hs hQ;obtain⟨pl,M,g1,g2,g3,g4,g5⟩:=hs.ex;obtain⟨hlt,hv⟩:=g3.at_ t _ ht;have same:a.put (some t) (a.tmps.getD t undef)=a:=by
  obtain⟨tm,df⟩:=a;simp only[Act.put];congr 1;apply Array.ext_getElem?;intro k;rw[Array.getElem?_setIfInBounds];by_cases e:t=k
  ·subst e;have:t<tm.size:=by have:=g3.size;simp_all
   simp_all
  grind
 generalize hc:a.tmps.getD t undef=c at hv same;cases hv with
 |lsn=>
  obtain⟨A0,e0,h0⟩:=p0 rfl;obtain⟨q1,q2⟩:=ly g3 (VRel.nils (pl:=pl) (M:=M)) (by rw[hs.n];exact hs.small) e0;rw[same]at q1;exact h0 i N h0' pl0 M0 w0 a w Q hb hl' ⟨⟨pl,M,g1,g2,q1,g4,g5⟩,by rw[<-hs.n];omega,hs.small⟩ hQ
 |lsp h ht0=>
  obtain⟨q1,q2⟩:=ly g3 h (by rw[hs.n];exact hs.small) p1;rw[same]at q1;exact h1 i N h0' pl0 M0 w0 a w Q hb hl' ⟨⟨pl,M,g1,g2,q1,g4,g5⟩,by rw[<-hs.n];omega,hs.small⟩ hQ
theorem Th{b:Option Nat}{Φ:St->Prop}{d:D}{K:D->St->Prop}(h:WPn d s K)(hk:∀d s',s'.tmps.n=s.tmps.n->K d s'->b8 P G b ops l s' Φ):b8 P G b ops l s Φ:=by
 have key:∀{t:Nat}{v:AV}{A':Fr},ie s.tmps (some t) v=some A'->A'.n=s.tmps.n:=fun{t v A'} e=>by grind[ie,Fr.put]
 cases d
 case nz t a b=>grind[WPn,ZA,bo,b8.nz]
 all_goals exact hk _ _ rfl h
theorem fc(hG:iT G)(hc:co P G call){Φ:St->Prop}:∀(l:List Oper)(d:D)(s:St)(K:D->St->Prop),ZK P G call m ops l d s K->(∀d s,s.tmps.n<=60000->K d s->Φ s)->b8 P G (some m) ops l s Φ
 |[],d,s,K,h,hK=>b8.bounded fun hn=>b8.nil (hK d s hn h)
 | o::r,d,s,K,h,hK=>by
  refine b8.bounded fun hn=>?_
  simp only[ZK]at h;refine Th h fun d s hn' h=>?_
  have hn:s.tmps.n<=60000:=by omega
  refine sN hG hn h fun d s' _ hW h=>b8.weak hW ?_
  refine Th h fun d s' _ h=>?_
  refine Ti h (fun hg d h=>?_) (fun hg d h=>?_)
  ·cases d<;>simp only[aaE]at h
   case go n d'=>
    split at h
    ·rename_i v h' hb;obtain⟨A',e1,e2⟩:=bo h;refine b8.one (s':=⟨A',h'⟩) hc ?_ (fc hG hc r _ _ K e2 hK);grind[zV,bI,fin]
    simp_all
   case val v d'=>
    obtain⟨A',e1,e2⟩:=bo h.2;exact b8.val hg h.1 e1 (fc hG hc r _ _ K e2 hK)
   case opv v h' d'=>
    obtain⟨A',e1,e2⟩:=bo h.2;exact b8.val hg h.1 e1 (fc hG hc r _ _ K e2 hK)
   case elem x d'=>
    obtain⟨⟨xs,i,e1,e2⟩,h2⟩:=xl (h:=s'.heap) h;obtain⟨A',e3,e4⟩:=bo h2;exact K6 hg e1 (Le.elem e2) e3 (fc hG hc r _ _ K e4 hK)
   case chr c d'=>
    obtain⟨e1,h2⟩:=KE (h:=s'.heap) h;obtain⟨A',e3,e4⟩:=bo h2;exact b8.val hg e1 e3 (fc hG hc r _ _ K e4 hK)
   case efd v h1 d'=>
    obtain⟨f,args,e1,e2,h2⟩:=j8 h;obtain⟨A',e3,e4⟩:=bo h2;exact b8.calls hg e1 e2 fun v1 h1 ⟨q1,q2⟩=>by
     subst q1;subst q2;exact⟨A',e3,fc hG hc r _ _ K e4 hK⟩
   case look v d'=>
    obtain⟨e1,h2⟩:=xZ h;obtain⟨A',e3,e4⟩:=bo h2;exact b8.val hg e1 e3 (fc hG hc r _ _ K e4 hK)
   case upd es c d'=>
    obtain⟨h',e1,h2⟩:=y7 h;obtain⟨A',e3,e4⟩:=bo h2;exact b8.val hg e1 e3 (fc hG hc r _ _ K e4 hK)
   case nxt T k v bn I a d'=>
    refine K7 hg h (fun h2=>?_) fun y hy h' h2=>?_
    ·obtain⟨A',e3,e4⟩:=bo h2;exact⟨A',e3,fc hG hc r _ _ K e4 hK⟩
    ·obtain⟨A',e3,e4⟩:=bo h2;exact⟨A',e3,fc hG hc r _ _ K e4 hK⟩
   case ent v d'=>
    obtain⟨e1,h2⟩:=Kq h;obtain⟨A',e3,e4⟩:=bo h2;exact b8.val hg e1 e3 (fc hG hc r _ _ K e4 hK)
   case pk w d'=>
    obtain⟨v,e1,h2⟩:=CH (P:=P) (h:=s'.heap) h;obtain⟨A',e3,e4⟩:=bo h2;exact b8.val hg e1 e3 (fc hG hc r _ _ K e4 hK)
   case app d'=>
    obtain⟨v,h',e1,h2⟩:=KR h;obtain⟨A',e3,e4⟩:=bo h2;exact b8.val hg e1 e3 (fc hG hc r _ _ K e4 hK)
   case apl d'=>
    obtain⟨v,h',e1,h2⟩:=Bi h;obtain⟨A',e3,e4⟩:=bo h2;exact b8.val hg e1 e3 (fc hG hc r _ _ K e4 hK)
   case slc d'=>
    obtain⟨v,e1,h2⟩:=za h;obtain⟨A',e3,e4⟩:=bo h2;exact b8.val hg e1 e3 (fc hG hc r _ _ K e4 hK)
   case slp ys d'=>
    obtain⟨v,e1,h2⟩:=zy h;obtain⟨A',e3,e4⟩:=bo h2;exact b8.val hg (e1 _) e3 (fc hG hc r _ _ K e4 hK)
   case rix d'=>
    obtain⟨v,e1,h2⟩:=zh h;obtain⟨A',e3,e4⟩:=bo h2;exact b8.val hg e1 e3 (fc hG hc r _ _ K e4 hK)
   case rld x d'=>
    obtain⟨v,e1,h2⟩:=zg h;obtain⟨A',e3,e4⟩:=bo h2;exact b8.val hg e1 e3 (fc hG hc r _ _ K e4 hK)
   case rst x xs d'=>
    obtain⟨h',e1,h2⟩:=zd h;obtain⟨A',e3,e4⟩:=bo h2;exact b8.val hg e1 e3 (fc hG hc r _ _ K e4 hK)
   case pure v d'=>
    obtain⟨f,args,e1,e2,h2⟩:=j8 h;obtain⟨A',e3,e4⟩:=bo h2;exact b8.calls hg e1 (e2 _) fun v1 h1 ⟨q1,q2⟩=>by
     subst q1;subst q2;exact⟨A',e3,fc hG hc r _ _ K e4 hK⟩
   case eff Y rr hp I d'=>
    obtain⟨f,args,e1,e2,h2⟩:=j8 h;exact b8.calls hg e1 e2 fun v1 h1 ⟨y,q0,q1,q2⟩=>by
     subst q1;subst q2;obtain⟨A',e3,e4⟩:=bo (h2 y q0);exact⟨A',e3,fc hG hc r _ _ K e4 hK⟩
  ·obtain⟨A',e1,e2⟩:=bo h;exact b8.skip hg e1 (fc hG hc r _ _ K e2 hK)
theorem IK{F:Fr}{d:DOper}(hg:ez ⟨F.n,bN F d.look .nil⟩ d.r.g=some true):E4 call F h d=YE call F h d:=by
 simp only[E4,hg];rfl
theorem DSpec.less{F:Fr}{look:List Tmp}{h1:AHeap}{r:Rec}{u:AV}(hl:Le u v)(hd:DSpec P G ops o look F h v h1 r):DSpec P G ops o look F h u h1 r:=⟨hd.le,hd.keep,hd.new,fun nk n0 g pl M a w K Q q1 q2 q3 q4 q5 q6 q7 q8 q9 q10 hK=>hd.exec nk n0 g pl M a w K Q q1 q2 q3 q4 q5 q6 q7 q8 q9 q10 fun cv w' pl' M' g' z1 z2 z3 z4 z5 z6 z7=>hK cv w' pl' M' g' z1 z2 (hl _ _ _ z3) z4 z5 z6 z7⟩
theorem K9(hG:iT G){F:Fr}{h1:AHeap}{u:AV}(hg:ez ⟨F.n,bN F (o.looksAt ops) .nil⟩ (dT ops o)=some true)(e:(eT P G o.op).run ⟨F.n,bN F (o.looksAt ops) .nil⟩ AHeap.none=some (.val v h1))
  (ht:ip F 0 (o.looksAt ops)=true)(hl:Le u (fR 0 0 v h1).1)(hu:u.top=0):DSpec P G ops o (o.looksAt ops) F h u h ⟨⟨false,[],0,0⟩,⟨false,[],0,0⟩⟩:=by
 refine⟨af _,fun _ _ _ h=>h,fun id h1 h2=>by omega,?_⟩;intro nk n0 g pl M a w K Q hn0 hnk hbig hr hvis hU hG' hs hdf hF hK;have hf0:FrRel pl M ⟨F.n,bN F (o.looksAt ops) .nil⟩ a:=gN hs hdf hF;rw[fQ hf0 hg];simp only[if_true];left;have hf:FrRel (dJ pl 0) M ⟨F.n,bN F (o.looksAt ops) .nil⟩ a:=rY hs hdf ht hF;have hcut:dJ pl 0=fun _=>none:=by
  funext id;cases hp:dJ pl 0 id with
  |none=>rfl
  |some p=>exact absurd (aG.1 hp).1 (pG _)
 rw[hcut]at hf;have hG2:pE G (fun _=>none) M:=hG'.none hG;obtain⟨dst,op,ty,pos,after,guard⟩:=o;obtain⟨pl1,M1,cv,w1,nx,q1,q2,q3,q4,q5,q6⟩:=zF (P:=P) (G:=G) op _ M _ _ v _ a w dst ty pos after guard hG2 (qo hr) hf e;obtain⟨pl2,M2,k1,k2,k3,_⟩:=ug 0 (v2:=(fR 0 0 v h1).1) (h2:=(fR 0 0 v h1).2) (qo hr) q4 q3 q5 q6 rfl;have fin:K (a.put dst cv) w1:=by
  obtain⟨z1,z2⟩:=vN (m:=n0) hr k2 k3;exact hK cv w1 pl M2 g z1 z2 ((hl _ _ _ k1).none hu) (nE.refl _) (fun id h _=>h) (fun _ _=>rfl) (fun id o' hh=>absurd hh (rm (ids:=[])))
 unfold Oper.wp;rw[q1];rcases q2 with rfl|⟨rfl,rfl⟩
 ·exact fin
 ·exact fin
theorem Gy{h h':AHeap}:∀{n:Nat},Qc h h' n->∀id,id<n->h'.get id=h.get id
 |0,_,id,hid=>absurd hid (pG _)
 | n+1,hs,id,hid=>by
  rcases fm id n with q|q
  ·exact Gy hs.2 id q
  ·have:id=n:=by omega
   subst this;exact hs.1
theorem dh{masks:List (Nat×Nat)}{k:Nat}{r:Rec}{rs:List Rec}{p:Prop}(h:Bz masks k r rs p):lf (eH masks k) r rs k=true/\p:=by grind[Bz]
theorem gQ(hG:iT G)(hc:co P G call){Φ:Fr->AHeap->Prop}:∀(l:List Oper)(k:Nat)(d:D)(F:Fr)(h:AHeap)(rs:List Rec)(K:D->St->Prop),ZV P G call ops (dS ops.toList 0 []) l k d F h rs K->F.n<=60000->(∀d F h,F.n<=60000->K d ⟨F,h⟩->Φ F h)->sn P G ops k l F h rs Φ
 |[],k,d,F,h,rs,K,hw,hF,hK=>by grind[ZV,sn.done]
 | o::r,k,d,F,h,rs,K,hw,hF,hK=>by
  simp only[ZV]at hw;refine Ti hw (fun hg d hw=>?_) (fun hg d hw=>?_)
  ·cases d<;>simp only[aaF]at hw
   case go n d'=>
    split at hw
    ·rename_i v h' rec hd;obtain⟨e1,e2⟩:=dh hw;obtain⟨A',e3,e4⟩:=bo e2;refine sn.step (DSpec.of hc (r:=rec) ?_) e1 e3 (gQ hG hc r (k+1) _ _ _ _ K e4 (by grind[eE]) hK);grind[IK,bI]
    simp_all
   case asl u d'=>
    split at hw
    ·rename_i v h' rec hd;obtain⟨hl,hw⟩:=hw;obtain⟨e1,e2⟩:=dh hw;obtain⟨A',e3,e4⟩:=bo e2;refine sn.step (DSpec.less hl (DSpec.of hc (r:=rec) ?_)) e1 e3 (gQ hG hc r (k+1) _ _ _ _ K e4 (by grind[eE]) hK);grind[IK,bI]
    simp_all
   case slc d'=>
    split at hw
    ·rename_i hk;obtain⟨v,e0,hw⟩:=za hw;obtain⟨e1,e2⟩:=dh hw;obtain⟨A',e3,e4⟩:=bo e2;refine sn.step (ko (d:=⟨bI P G ops o,o.looksAt ops,de o.op,c9 o.op,0⟩) (ids:=cW F (de o.op)) rfl (by simp_all) ?_ hg) e1 e3 (gQ hG hc r (k+1) _ _ _ _ K e4 (by grind[eE]) hK);grind[bI,pO]
    simp_all
   case rix d'=>
    split at hw
    ·rename_i hk;obtain⟨v,e0,hw⟩:=zh hw;obtain⟨e1,e2⟩:=dh hw;obtain⟨A',e3,e4⟩:=bo e2;refine sn.step (ko (d:=⟨bI P G ops o,o.looksAt ops,de o.op,c9 o.op,0⟩) (ids:=cW F (de o.op)) rfl (by simp_all) ?_ hg) e1 e3 (gQ hG hc r (k+1) _ _ _ _ K e4 (by grind[eE]) hK);grind[bI,pO]
    simp_all
   case rld x d'=>
    split at hw
    ·rename_i hk;obtain⟨v,e0,hw⟩:=zg hw;obtain⟨e1,e2⟩:=dh hw;obtain⟨A',e3,e4⟩:=bo e2;refine sn.step (ko (d:=⟨bI P G ops o,o.looksAt ops,de o.op,c9 o.op,0⟩) (ids:=cW F (de o.op)) rfl (by simp_all) ?_ hg) e1 e3 (gQ hG hc r (k+1) _ _ _ _ K e4 (by grind[eE]) hK);grind[bI,pO]
    simp_all
   case slp ys d'=>
    split at hw
    ·rename_i hk;obtain⟨v,e0,hw⟩:=zy hw;obtain⟨e1,e2⟩:=dh hw;obtain⟨A',e3,e4⟩:=bo e2;refine sn.step (ko (d:=⟨bI P G ops o,o.looksAt ops,de o.op,c9 o.op,0⟩) (ids:=cW F (de o.op)) rfl (by simp_all) ?_ hg) e1 e3 (gQ hG hc r (k+1) _ _ _ _ K e4 (by grind[eE]) hK);grind[bI,pO]
    simp_all
   case rst x xs d'=>
    split at hw
    ·rename_i hk;obtain⟨k1,k2,hw⟩:=hw;obtain⟨hw',e0,hw⟩:=zd hw;split at hw
     ·rename_i v h' rec hd;obtain⟨e1,e2⟩:=dh hw;obtain⟨A',e3,e4⟩:=bo e2;refine sn.step (mC (d:=⟨bI P G ops o,o.looksAt ops,de o.op,c9 o.op,0⟩) (ids:=cW F (de o.op)) rfl ?_ hg) e1 e3 (gQ hG hc r (k+1) _ _ _ _ K e4 (by grind[eE]) hK);simp_all[bI,pp,nb]
     simp_all
    simp_all
   case upd es c d'=>
    split at hw
    ·rename_i hk;obtain⟨k1,k2,hw⟩:=hw;obtain⟨hw',e0,hw⟩:=y7 hw;split at hw
     ·rename_i v h' rec hd;obtain⟨e1,e2⟩:=dh hw;obtain⟨A',e3,e4⟩:=bo e2;refine sn.step (mC (d:=⟨bI P G ops o,o.looksAt ops,de o.op,c9 o.op,0⟩) (ids:=cW F (de o.op)) rfl ?_ hg) e1 e3 (gQ hG hc r (k+1) _ _ _ _ K e4 (by grind[eE]) hK);simp_all[bI,pp,nb]
     simp_all
    simp_all
   case apx xs d'=>
    split at hw
    ·rename_i hk;obtain⟨k1,k2,hw⟩:=hw;obtain⟨v0,hw',e0,hw⟩:=Bi (abq hw);split at hw
     ·rename_i v h' rec hd;obtain⟨e1,e2⟩:=dh hw;obtain⟨A',e3,e4⟩:=bo e2;refine sn.step (mC (d:=⟨bI P G ops o,o.looksAt ops,de o.op,c9 o.op,0⟩) (ids:=cW F (de o.op)) rfl ?_ hg) e1 e3 (gQ hG hc r (k+1) _ _ _ _ K e4 (by grind[eE]) hK);grind[bI,pp,nb]
     simp_all
    simp_all
   case app d'=>
    split at hw
    ·rename_i hk;obtain⟨k1,k2,hw⟩:=hw;obtain⟨v0,hw',e0,hw⟩:=xu hw;split at hw
     ·rename_i v h' rec hd;obtain⟨e1,e2⟩:=dh hw;obtain⟨A',e3,e4⟩:=bo e2;refine sn.step (mC (d:=⟨bI P G ops o,o.looksAt ops,de o.op,c9 o.op,0⟩) (ids:=cW F (de o.op)) rfl ?_ hg) e1 e3 (gQ hG hc r (k+1) _ _ _ _ K e4 (by grind[eE]) hK);grind[bI,pp,nb]
     simp_all
    simp_all
   case opv v0 hw' d'=>
    split at hw
    ·rename_i hk;obtain⟨k1,k2,e0,hw⟩:=hw;split at hw
     ·rename_i v h' rec hd;obtain⟨e1,e2⟩:=dh hw;obtain⟨A',e3,e4⟩:=bo e2;refine sn.step (mC (d:=⟨bI P G ops o,o.looksAt ops,de o.op,c9 o.op,0⟩) (ids:=cW F (de o.op)) rfl ?_ hg) e1 e3 (gQ hG hc r (k+1) _ _ _ _ K e4 (by grind[eE]) hK);grind[bI,pp,nb]
     simp_all
    simp_all
   case val v d'=>
    split at hw
    ·rename_i hk;obtain⟨e0,hw⟩:=hw;obtain⟨e1,e2⟩:=dh hw;obtain⟨A',e3,e4⟩:=bo e2;refine sn.step (ko (d:=⟨bI P G ops o,o.looksAt ops,de o.op,c9 o.op,0⟩) (ids:=cW F (de o.op)) rfl (by simp_all) ?_ hg) e1 e3 (gQ hG hc r (k+1) _ _ _ _ K e4 (by grind[eE]) hK);grind[bI,pO]
    simp_all
   case elem x d'=>
    split at hw
    ·rename_i hk;obtain⟨⟨xs,i,e0,ex⟩,hw⟩:=xl (h:=⟨1000000,bF h (cW F (de o.op)) .nil⟩) hw;obtain⟨e1,e2⟩:=dh hw;obtain⟨A',e3,e4⟩:=bo e2;refine sn.step (DSpec.less (Le.elem ex) (ko (d:=⟨bI P G ops o,o.looksAt ops,de o.op,c9 o.op,0⟩) (ids:=cW F (de o.op)) rfl (by simp_all) ?_ hg)) e1 e3 (gQ hG hc r (k+1) _ _ _ _ K e4 (by grind[eE]) hK);grind[bI,pO]
    simp_all
   case efx same v h' d'=>
    obtain⟨f,args,e1,hw⟩:=j8 hw;split at hw
    ·rename_i hb;simp only[bU,bz,decide_eq_true_eq]at hb;obtain⟨⟨k1,k3⟩,k4⟩:=hb;obtain⟨k2,k5,e2,hw⟩:=hw;have hcl:=jX k2;cases same with
     |true=>
      obtain⟨e3,hw⟩:=dh hw;obtain⟨F',e5,e6⟩:=bo hw;exact sn.step (DSpec.effS hg e1 k1 (fun id o' hh=>gk h.n hcl id o' (AHeap.get_some.1 hh).1 hh) k3 (Gy k5) e2) e3 e5 (gQ hG hc r (k+1) _ _ _ _ K e6 (by grind[eE]) hK)
     |false=>
      obtain⟨e3,hw⟩:=dh hw;obtain⟨F',e5,e6⟩:=bo hw;exact sn.step (DSpec.eff hg e1 k1 (fun id o' hh=>gk h.n hcl id o' (AHeap.get_some.1 hh).1 hh) k3 (pf h.n (by simp_all)) e2) e3 e5 (gQ hG hc r (k+1) _ _ _ _ K e6 (by grind[eE]) hK)
    simp_all
   case efd v h' d'=>
    obtain⟨f,args,e1,hw⟩:=j8 hw;split at hw
    ·rename_i hk;simp only[bU,bz,decide_eq_true_eq]at hk;obtain⟨⟨⟨k1,k2⟩,k3⟩,k4⟩:=hk;obtain⟨e2,hw⟩:=hw;obtain⟨e3,e4⟩:=dh hw;obtain⟨A',e5,e6⟩:=bo e4;exact sn.step (DSpec.eff hg e1 k1 (fun id o' hh=>gk h.n k2 id o' (AHeap.get_some.1 hh).1 hh) k3 (pf h.n k4) e2) e3 e5 (gQ hG hc r (k+1) _ _ _ _ K e6 (by grind[eE]) hK)
    simp_all
   case look v d'=>
    split at hw
    ·rename_i hk;obtain⟨e0,hw⟩:=xZ hw;obtain⟨e1,e2⟩:=dh hw;obtain⟨A',e3,e4⟩:=bo e2;refine sn.step (ko (d:=⟨bI P G ops o,o.looksAt ops,de o.op,c9 o.op,0⟩) (ids:=cW F (de o.op)) rfl (by simp_all) ?_ hg) e1 e3 (gQ hG hc r (k+1) _ _ _ _ K e4 (by grind[eE]) hK);grind[bI,pO]
    simp_all
   case pk w d'=>
    split at hw
    ·rename_i hk;obtain⟨v,e0,hw⟩:=CH (P:=P) (h:=⟨1000000,bF h (cW F (de o.op)) .nil⟩) hw;obtain⟨e1,e2⟩:=dh hw;obtain⟨A',e3,e4⟩:=bo e2;refine sn.step (ko (d:=⟨bI P G ops o,o.looksAt ops,de o.op,c9 o.op,0⟩) (ids:=cW F (de o.op)) rfl (by simp_all) ?_ hg) e1 e3 (gQ hG hc r (k+1) _ _ _ _ K e4 (by grind[eE]) hK);grind[bI,pO]
    simp_all
   case pure v d'=>
    obtain⟨f,args,e1,hw⟩:=j8 hw;split at hw
    ·rename_i hk;simp only[ao,bz,decide_eq_true_eq]at hk;obtain⟨e2,hw⟩:=hw;obtain⟨e3,e4⟩:=dh hw;obtain⟨A',e5,e6⟩:=bo e4;exact sn.step (DSpec.pure hG hg e1 hk.1 hk.2 e2) e3 e5 (gQ hG hc r (k+1) _ _ _ _ K e6 (by grind[eE]) hK)
    simp_all
   case fsl k0 ts t ys d'=>
    obtain⟨v0,h1,e1,hw⟩:=xu hw;split at hw
    ·rename_i ht;obtain⟨hl,hw⟩:=hw;obtain⟨e3,e4⟩:=dh hw;obtain⟨A',e5,e6⟩:=bo e4;exact sn.step (K9 hG hg e1 ht hl rfl) e3 e5 (gQ hG hc r (k+1) _ _ _ _ K e6 (by grind[eE]) hK)
    simp_all
  ·obtain⟨e1,e2⟩:=dh hw;obtain⟨A',e3,e4⟩:=bo e2;refine sn.step (v:=gj) (h1:=h) (DSpec.of hc (r:=Ev.rd []) ?_) e1 e3 (gQ hG hc r (k+1) _ _ _ _ K e4 (by grind[eE]) hK);grind[bI,E4]
theorem rR{b:Option Nat}{ts:List Nat}{vs:List AV}{os:List AObj}(h1:pd s.tmps ts=some vs)(h2:ed s.heap s.heap.n 0=some os):b7 G b s (T4 s.tmps.n ts (vs,os)):=by
 obtain⟨k1,k2⟩:=dR _ _ _ h2;exact b7.sub ⟨rfl,fun t v h=>Ar h1 t v (uc h),by grind[T4,aa],fun id o hh=>by simpa using k2 id o (nL hh)⟩
theorem L5(hG:iT G){b:Code}{X:Type}{n:Nat}{ts:List Nat}{S:X->List AV×List AObj}{I:X->Prop}{ms:X->Nat}{K:AExit->D->St->Prop}{Φ:AExit->St->Prop}
  (h3:∀x,I x->∀Φ':AExit->St->Prop,(∀e d s,s.tmps.n<=60000->zf m n ts S I ms x K e d s->Φ' e s)->am P G (some m) b (T4 n ts (S x)) Φ')
  (hK:∀e d s,s.tmps.n<=60000->K e d s->Φ e s)(x0:X)(h2:I x0):am P G (some m) (.loop b) (T4 n ts (S x0)) Φ:=by
 refine am.loop (fun k s1=>∃x,s1.tmps.n=n/\b7 G (some m) s1 (T4 n ts (S x))/\I x/\ms x=k) (ms x0) ⟨x0,rfl,b7.refl _,h2,rfl⟩ ?_
 rintro k s1 ⟨x,e2,hW1,hx,rfl⟩
 refine am.weak hW1 (h3 x hx _ fun e d s2 hn2 he=>?_);cases e with
 |normal=>
  simp only[zf]at he;refine sN hG hn2 he fun d s3 e3 hW3 he=>?_
  split at he
  ·rename_i vs' os' hnn hv' ho';simp only[ao,decide_eq_true_eq]at hnn;obtain⟨y,y1,y2,y3⟩:=he;refine⟨ms y,y2,y,by omega,hW3.trans ?_,y1,rfl⟩;grind[rR]
  simp_all
 |exit id=>exact hK _ d s2 hn2 he
 |ret=>exact hK _ d s2 hn2 he
theorem XX(hm:P.follows .mixedOrders=true)(hG:iT G)(hc:co P G call):∀(c:Code)(d:D)(s:St)(K:AExit->D->St->Prop)(Φ:AExit->St->Prop),(WP P G call m c).run d s K->(∀e d s,s.tmps.n<=60000->K e d s->Φ e s)->am P G (some m) c s Φ:=by
 intro c;induction c with
 |skip=>exact fun d s K Φ h hK=>am.bounded fun hn=>am.skip (hK _ d s hn h)
 |label l=>exact fun d s K Φ h hK=>am.bounded fun hn=>am.label (hK _ d s hn h)
 |exit id=>exact fun d s K Φ h hK=>am.bounded fun hn=>am.exit (hK _ d s hn h)
 |ret=>exact fun d s K Φ h hK=>am.bounded fun hn=>am.ret (hK _ d s hn h)
 |scope b ih=>exact fun d s K Φ h hK=>am.scope (ih d s K Φ h hK)
 | seq a b iha ihb=>
  intro d s K Φ h hK;have plain:∀d s,(WP P G call m a).run d s (Xm (WP P G call m b) K)->am P G (some m) (.seq a b) s Φ:=fun d s h=>by
   refine am.seq (iha d s _ _ h fun e d s hn he=>?_);cases e with
   |normal=>exact ihb d s K Φ he hK
   |exit id=>exact hK _ d s hn he
   |ret=>exact hK _ d s hn he
  cases d
  case join X ts S I d1 d2=>
   obtain⟨h1,h2⟩:=h;refine am.seq (iha d1 s _ _ h1 fun e d s' hn he=>?_);cases e with
   |normal=>
    simp only[WI]at he;refine am.bounded fun hn=>?_
    refine sN hG hn he fun d s3 e3 hW3 he=>am.weak hW3 ?_
    split at he
    ·rename_i vs' os' hnn hv' ho';simp only[ao,decide_eq_true_eq]at hnn;obtain⟨y,y1,y3⟩:=he;have hw:=rR (G:=G) (b:=some m) hv' ho';grind[am.weak]
    simp_all
   |exit id=>exact hK _ d s' hn he
   |ret=>exact hK _ d s' hn he
  case inn d=>exact plain d s h
  all_goals exact plain _ s h
 |block id b ih=>
  intro d s K Φ h hK;refine am.block (ih d s _ _ h fun e d s hn he=>?_);cases e with
  |normal=>exact hK _ d s hn he
  |ret=>exact hK _ d s hn he
  |exit k=>grind[Zo,ao,Wf]
 | region id ops draw=>
  intro d s K Φ h hK;refine am.bounded fun hn=>?_
  cases draw with
  |false=>exact am.region (fc hG hc _ d s _ h fun d s' hn' he=>hK .normal d s' hn' he)
  |true=>
   refine sN hG hn h fun d s' e1 hW h=>am.weak hW ?_
   grind[am.draw,gQ]
 | cond x a b iha ihb=>
  intro d s K Φ h hK;refine am.bounded fun hn=>?_
  refine sN hG hn h fun d s' _ hW h=>am.weak hW ?_
  cases hv:(cj G x).run s'.tmps with
  |none=>rw[hv]at h;exact h.elim
  | some v=>
   rw[hv]at h;cases v<;>simp only[WPc]at h
   case bool t=>
    cases d<;>simp only[]at h
    case go n d'=>grind[am.cond]
    case tt d'=>grind[IP]
    case ff d'=>grind[IR]
    case br d1 d2=>exact am.cond hv (fun k=>iha _ s' K Φ (h.1 k) hK) (fun k=>ihb _ s' K Φ (h.2 k) hK)
 | loop b ih=>
  intro d s K Φ h hK;refine am.bounded fun hn=>?_
  refine sN hG hn h fun d s' e1 hW h=>am.weak hW ?_
  have hn':s'.tmps.n<=60000:=by omega
  cases d<;>simp only[WG]at h
  case loop X ts S I ms x0 db=>
   split at h
   ·rename_i vs os hv ho;obtain⟨h1,h2,h3⟩:=h;refine am.weak (rR hv ho) ?_;rw[h1];exact L5 hG (fun x hx Φ' hΦ=>ih (db x) _ _ _ (h3 x hx) hΦ) hK x0 h2
   simp_all
  case un n db=>
   refine am.loop (fun k s1=>∃d1,(WP P G call m b).run d1 s1 (unK (WP P G call m b) K k)) n ⟨db,h⟩ ?_
   rintro k s1 ⟨d1,h1⟩
   refine ih d1 _ _ _ h1 fun e d2 s2 h2 hn2=>?_
   cases k<;>cases e<;>first|exact⟨_,Nat.lt_succ_self _,_,hn2⟩|exact hn2.elim|exact hK _ _ _ h2 hn2
  case loop2 X Y ts S S' I I' ms ms' x0 db db'=>
   split at h
   ·rename_i vs os hv ho;obtain⟨h1,h2,h3,h4⟩:=h;refine am.weak (rR hv ho) ?_;rw[h1];refine L5 (S:=Sum.elim S S') (I:=Sum.elim I I') (ms:=Sum.elim ms ms') hG (fun x hx Φ' hΦ=>?_) hK x0 h2;grind
   simp_all
 |_=>intro d s K Φ h hK;exact h.elim
theorem Ff{hp:AHeap}{fn:Func}{Ψ:AV->AHeap->Prop}(pol:Nat)(hf:P.funcs[f]?=some fn)(hN:(fn.name== "runtime.NumGoroutine")=false)(hb:fn.body=some c)(hn:Nat.ble args.length fn.ntmps=true/\Nat.ble fn.ntmps 60000=true)
  (h:am P G (some hp.n) c ⟨⟨fn.ntmps,gS fn.ntmps args 0 .nil⟩,hp⟩ fun e s=>(∀id,e≠.exit id)/\∃s',b7 G (some hp.n) s s'/\∃v,fW (fV P fn.results.toList s'.tmps s'.heap)=some v/\Ψ (fR pol hp.n v s'.heap).1 (fR pol hp.n v s'.heap).2):aE P G f args hp Ψ:=by
 intro pl M w vs hg hr hv;simp only[bU,decide_eq_true_eq]at hn;left;simp only[beq_eq_false_iff_ne,ne_eq]at hN;refine⟨by simp_all[callFunc],calls_of_wp hf hb ?_⟩;have hs0:SNow G fn.ntmps hp pl M w ⟨⟨fn.ntmps,gS fn.ntmps args 0 .nil⟩,hp⟩ {tmps:=vs++Array.replicate (fn.ntmps-vs.size) undef,defers:=[]} w:=⟨⟨pl,M,hg,hr,zY hv hn.1 hn.2,cO.refl _ _ _ _,af _⟩,rfl,hn.2⟩
 have hbase:Wi (some hp.n) hp pl:=fun m hb=>by cases hb;exact⟨rfl,fun id p hq=>hr.dom id p hq⟩
 refine h fn.ntmps hp pl M w _ w _ hbase hs0 fun e s a1 w1 h1 h2=>?_
 obtain⟨hne,s',hW,v,hres,hΨ⟩:=h1;have h2:=hW _ _ _ _ _ _ _ hbase h2;obtain⟨pl1,M1,g1,g2,g3,g4,g5⟩:=h2.ex;obtain⟨cv,k1,k2⟩:=sI g2 g3 hres;obtain⟨pl2,M2,q1,q2,q3,q4⟩:=ug pol hr g2 k2 g4 g5 (rfl:fR pol hp.n v s'.heap=((fR pol hp.n v s'.heap).1,(fR pol hp.n v s'.heap).2));have fin:a1.defers=[]/\∃u,(results fn a1.tmps).run P w1=.ok u w1/\∃cv v h',Ending.returned u=.returned cv/\Ψ v h'/\iX pl M hp w v h' cv w1:=⟨g3.defers,cv,k1,cv,_,_,rfl,hΨ,pl2,M2,q1,q2,q3,q4⟩
 cases e with
 |exit id=>simp_all
 |normal=>exact fin
 |ret=>exact fin
theorem Vt(hG:iT G){res:List ResultVar}{Ψ:AV->AHeap->Prop}{e:AExit}{d:D}(hn:s.tmps.n<=60000)(h:EH P m res Ψ e d s):
  (∀id,e≠.exit id)/\∃s',b7 G (some m) s s'/\∃v,fW (fV P res s'.tmps s'.heap)=some v/\Ψ v s'.heap:=by
 have key:pre m d s (fun _ s=>match fW (fV P res s.tmps s.heap)with|some u=>Ψ u s.heap|none=>False)->∃s',b7 G (some m) s s'/\∃v,fW (fV P res s'.tmps s'.heap)=some v/\Ψ v s'.heap:=by
  intro h;refine sN hG hn h fun d' s' _ hW h=>⟨s',hW,?_⟩
  grind
 cases e with
 |exit id=>exact h.elim
 |normal=>exact⟨fun id h=>(by grind),key h⟩
 |ret=>exact⟨fun id h=>(by grind),key h⟩
theorem aE.walk{hp:AHeap}{fn:Func}{Ψ:AV->AHeap->Prop}{W:Prop}(pol:Nat)(hm:P.follows .mixedOrders =true)(hG:iT G)(hc:co P G call)(hf:P.funcs[f]?=some fn)(hN:(fn.name== "runtime.NumGoroutine")=false)(hb:fn.body=some c)
  (hn:Nat.ble args.length fn.ntmps=true/\Nat.ble fn.ntmps 60000=true)(d:D)(p:W)
  (e:W=(WP P G call hp.n c).run d ⟨⟨fn.ntmps,gS fn.ntmps args 0 .nil⟩,hp⟩ (EH P hp.n fn.results.toList fun v h=>Ψ (fR pol hp.n v h).1 (fR pol hp.n v h).2)):aE P G f args hp Ψ:=
 Ff pol hf hN hb hn (XX hm hG hc c d _ _ _ (e▸p) fun _ _ _ hn h=>Vt hG hn h)
theorem aL.walk{fn:Func}{W:Prop}(hm:P.follows .mixedOrders =true)(hG:iT G)(hc:co P G call)(ht:aq args=0)(hv:v.top=0)(hf:P.funcs[f]?=some fn)(hN:(fn.name== "runtime.NumGoroutine")=false)(hb:fn.body=some c)
  (hn:Nat.ble args.length fn.ntmps=true/\Nat.ble fn.ntmps 60000=true)(d:D)(p:W)
  (e:W=(WP P G call 0 c).run d ⟨⟨fn.ntmps,gS fn.ntmps args 0 .nil⟩,AHeap.none⟩ (EH P 0 fn.results.toList fun u h=>Le v (fR 0 0 u h).1)):aL P G f args v:=
 oO hG ht hv (aE.less (aE.walk (Ψ:=fun v1 _=>Le v v1) (call:=call) 0 hm hG hc hf hN hb hn d p e) fun v1 h' e=>⟨v,e,rfl⟩)
end
abbrev By(x v:Bool):Prop:=x=v
theorem et{a b:Prop}(h:a)(k:b):a/\b:=⟨h,k⟩
theorem cS{b:Bool}(h:b=false):ax b=true:=by simp_all
theorem cE{b:Bool}(h:b=true):ax b=false:=by simp_all
theorem Le.of_eq{u v:AV}(h:u=v):Le u v:=by grind[Le.refl]
theorem Le.int{k:IntKind}{a b:Int}(h:a=b):Le (.int k a) (.int k b):=by grind[Le.refl]
theorem pC{k:IntKind}{a b:Int}(h:b=a):Le (.int k a) (.int k b):=by grind[Le.refl]
theorem Le.bool{a b:Bool}(h:a=b):Le (.bool a) (.bool b):=by grind[Le.refl]
theorem Le.str{a b:List UInt8}(h:a=b):Le (.str a) (.str b):=by grind[Le.refl]
theorem Le.lsn{xs:List AV}(h:xs=[]):Le (.ls xs) .nils:=by grind[Le.nils]
theorem Le.lsp{xs ys:List AV}{t:Bool}(h:xs=ys)(h0:aq ys=0):Le (.ls xs) (.ps ys t):=by grind[Le.ps]
theorem Aq{sz b n:Nat}{z:AV}{h:AHeap}(hs:small n b=true):fq (pj sz b z h (some (.int .i64 (.ofNat n))) (some (.int .i64 (.ofNat n))))=some (.val (.slice h.n 0 0 n (some n)) (h.push (.row sz false 0 (List.replicate n z)))):=by grind[Nat.ble_eq_true_of_le,pj,fq]
theorem BK{s id ep n sz:Nat}{op:Bool}{cap:Option Nat}{h:AHeap}{xs ys:List AV}(hg:h.get id=some (.row sz op ep xs))(hs:Nat.beq s sz=true)(hy:ys.length=n)(hx:xs.length=n)(hf:dA sz ys=true):
  fq (vW s h (some (.slice id ep 0 n cap)) (some (.ls ys)))=some (.val (.int .i64 (.ofNat n)) (h.put id (.row sz op ep ys))):=by
 have e1:ys.take n=ys:=th (by omega);have e2:bM xs 0 ys=ys:=by grind[bM]
 simp_all[vW,kF,km,NU,fq]
theorem Q6{α:Type}{f:α->AV}{l:List α}{z:AV}{i:Nat}(h:i=l.length):jo (l.map f++[z]) i=some z:=by rw[pz,oV (by simp_all),b9,show i-l.length=0 by omega];rfl
theorem Qv{α:Type}{f g:α->AV}(e:∀x,f x=g x){l:List α}{z:AV}{i:Nat}{w:α}(h:i=l.length):(l.map f++[z]).set i (g w)=(l++[w]).map f:=by simp_all
theorem XF{u v:AV}(h:Le u v)(hu:u.cells=[u])(hv:v.cells=[v]):∀(j:Nat)(y:AV),u.cells[j]?=some y->∃x:AV,v.cells[j]?=some x/\Le y x:=by grind
theorem cY{xs ys:List AV}(h:xs=ys):Le (.ls xs) (.ls ys):=by grind[Le.refl]
theorem aP{us vs:List AV}(h:Les us vs)(hs:us.all cN=true):Le (.agg us) (.agg vs):=Le.agg h fun u hu=>mw.1 hs u hu
theorem XN:Nat.mx 0 0=0:=rfl
theorem aX{α:Type}{f:α->AV}(h:∀x,(f x).top=0):∀(l:List α),aq (l.map f)=0
 |[]=>rfl
 |x::r=>by simp only[eg,aq,h x,aX h r,XN]
theorem aA{a b:Int}(h:aB a b=true):a<b:=by grind[v8]
theorem aF{a b:Int}(h:aB a b=false):b<=a:=by grind[v8]
theorem nQ{a b:Int}(h:a<b):aB a b=true:=by grind[v8]
theorem ky{a b:Int}(h:b<=a):aB a b=false:=by grind[v8]
theorem pg{a b:Int}:ay a b=decide (a=b):=by
 cases a with
 |ofNat a=>cases b with
  |ofNat b=>grind[ay,ao]
  |negSucc b=>exact(decide_eq_false (fun h=>by grind)).symm
 |negSucc a=>cases b with
  |ofNat b=>exact(decide_eq_false (fun h=>by grind)).symm
  |negSucc b=>grind[ay,ao]
theorem iQ{a b:Int}(h:ay a b=true):a=b:=by grind[pg]
theorem HN{a b:Int}(h:ay a b=false):a≠b:=by grind[pg]
theorem x8{x:Int}(h1: -(2^63)<=x)(h2:x<2^63):IntKind.i64.wrap x=x:=by grind[IntKind.wrap,IntKind.bits,IntKind.signed]
theorem Le.wr{x:Int}(h: -(2^63)<=x/\x<2^63):Le (.int .i64 x) (.int .i64 (IntKind.i64.wrap x)):=by grind[x8,Le.refl]
def gD{α:Type}[Inhabited α](l:List α)(i:Nat):α:=l.getD i default
theorem aR{α:Type}[Inhabited α]{l:List α}{i:Nat}(enc:α->AV)(h:i<l.length):jo (l.map enc) i=some (enc (gD l i)):=by grind[pz,gD]
theorem zL{α:Type}[Inhabited α]{l:List α}{i:Nat}(h:i<l.length):jo l i=some (gD l i):=by grind[pz,gD]
def nR(b:UInt8):AV:=.int .u8 (.ofNat b.toNat)
theorem W5(b:UInt8):(nR b).top=0:=rfl
theorem V6{s:List UInt8}{H:AHeap}(h:s.length<=2^40):bc H (kp (some (.str s)))=some (.val (.ps (s.map nR) false) H):=by
 have e1:Nat.ble s.length (2^40)=true:=tD h;simp only[kp,e1,bc];rfl
theorem Xi{s:List UInt8}{n:Nat}{k:IntKind}{H:AHeap}(h2:n<=s.length):bc H (lp (some (.str s)) none (some (.int k (.ofNat n))))=some (.val (.str (s.take n)) H):=by grind[Nat.ble_eq_true_of_le,lp,jK,fP,bc]
theorem Xh{s:List UInt8}{l:Nat}{k:IntKind}{H:AHeap}(h1:l<=s.length):bc H (lp (some (.str s)) (some (.int k (.ofNat l))) none)=some (.val (.str (s.drop l)) H):=by simp_all[tD,lp,jK,fP,bc]
theorem dZ{α:Type}[Inhabited α]{l:List α}{i:Nat}(h:i<l.length):gD l i∈l:=by grind[gD]
theorem Bs{x:Int}(h:0<=x):Le (.int .i64 (Int.ofNat x.toNat)) (.int .i64 x):=by grind[Le.refl]
theorem Le.len{α:Type}{f:α->AV}{l:List α}:Le (.int .i64 (Int.ofNat l.length)) (.int .i64 (Int.ofNat (l.map f).length)):=by grind[Le.refl]
theorem bS:(∀b:Bool,(b&&true)=b)/\(∀b:Bool,(true&&b)=b)/\(∀b:Bool,(b&&false)=false)/\(∀b:Bool,(false&&b)=false)/\(∀b:Bool,(b||true)=true)/\(∀b:Bool,(true||b)=true)/\
  (∀b:Bool,(b||false)=b)/\(∀b:Bool,(false||b)=b)/\(!true)=false/\(!false)=true:=by grind
theorem aS{α:Type}{p:α->Bool}:List.all [] p=true/\∀x r,List.all (x::r) p=(p x&&List.all r p):=⟨rfl,fun _ _=>rfl⟩
section
variable{α A:Type}{l r t:List α}{i:Nat}{w:α}{enc:α->AV}{J:List α->A->Prop}{a:A}
theorem VM(h:l.drop i=w::t):i<l.length:=by
 have:=congrArg List.length h;grind
theorem gH(h:l.drop i=r)(hr:r=[]):aB (Int.ofNat i) (Int.ofNat l.length)=false:=by
 subst hr;refine U1 ?_;simp_all
theorem gI(h:l.drop i=r)(hr:r=w::t):aB (Int.ofNat i) (Int.ofNat l.length)=true:=by grind[XT,VM]
theorem gG(h:l.drop i=r)(hr:r=w::t):jo (l.map enc) i=some (enc w):=by
 subst hr;rw[LP,pz];have:(l.drop i)[0]?=some w:=by simp_all
 grind
theorem cZ(h:l.drop i=r)(hr:r=w::t):l.drop (i+1)=t:=by
 subst hr;have:=congrArg (List.drop 1) h;grind[List.drop_drop]
theorem gY(hr:r=w::t):t.length<r.length:=by simp_all
theorem jA(hr:r=[])(h:J r a):J [] a:=hr▸h
theorem c8(hr:r=w::t)(h:J r a):J (w::t) a:=hr▸h
theorem ib(h:l.drop i=r)(hr:r=w::t):t.length+1<=l.length:=by
 subst hr;have:=congrArg List.length h;grind
theorem aN(h:l.drop i=r)(hr:r=w::t):w∈l:=by grind[List.mem_of_mem_drop]
end
section
def bH{V:Type}(f:V->AV):List (Int×V)->Nat->List AEnt
 |[],_=>[]
 |(k,v)::r,i=>⟨.int .i64 k,f v,i⟩::bH f r (i+1)
def gh{V:Type}(k:Int):List (Int×V)->Option V
 |[]=>none
 |(j,v)::r=>match ay k j with|true=>some v|false=>gh k r
def jc{V:Type}(k:Int)(v:V):List (Int×V)->List (Int×V)
 |[]=>[(k,v)]
 |(j,u)::r=>match ay k j with|true=>(j,v)::r|false=>(j,u)::jc k v r
variable{V:Type}{f:V->AV}
theorem tU(k:Int):∀(l:List (Int×V))(i:Nat),bv false 1 [(0,1)] (.int .i64 k) (bH f l i) i=some (match gh k l with|none=>none|some v=>some (i+(l.takeWhile fun p=>!(ay k p.1)).length,⟨.int .i64 k,f v,i+(l.takeWhile fun p=>!(ay k p.1)).length⟩))
 |[],i=>rfl
 | (j,v)::r,i=>by
  simp only[bH,bv,qH,KK,kL,gh];cases h:ay k j with
  |true=>grind[iQ,nJ,List.takeWhile]
  |false=>
   simp only[nJ,tU k r (i+1),List.takeWhile,h,CV];grind
theorem Aw(z:Option AV)(k:Int)(l:List (Int×V)):e9 z false (bv false 1 [(0,1)] (.int .i64 k) (bH f l 0) 0)=match gh k l with|none=>z|some v=>some (f v):=by
 rw[tU];cases gh k l with
 |none=>cases z<;>rfl
 |some v=>rfl
theorem EP(l r:List (Int×V)):∀(i:Nat),bH f (l++r) i=bH f l i++bH f r (i+l.length):=by
 induction l with
 |nil=>intro i;rfl
 |cons x l ih=>
  intro i;obtain⟨j,v⟩:=x;simp only[yM,bH,ih,cM,CK,true_and,List.append_cancel_left_eq];grind
theorem vu{k:Int}{v:V}:∀{l:List (Int×V)},gh k l=none->jc k v l=l++[(k,v)]
 |[],_=>rfl
 |(j,u)::r,h=>by
  simp only[gh]at h;cases q:ay k j with
  |true=>grind
  |false=>rw[q]at h;simp only[jc,q,yM,vu h]
theorem Gz{k:Int}{v u:V}:∀{l:List (Int×V)},gh k l=some u->(jc k v l).length=l.length
 |(j,w)::r,h=>by
  simp only[gh]at h;cases q:ay k j with
  |true=>grind[jc]
  |false=>rw[q]at h;simp only[jc,q,cM,Gz h]
theorem Da{k:Int}{v u:V}:∀{l:List (Int×V)}(i:Nat),gh k l=some u->
  (bH f l i).set (l.takeWhile fun p=>!(ay k p.1)).length ⟨.int .i64 k,f v,i+(l.takeWhile fun p=>!(ay k p.1)).length⟩=bH f (jc k v l) i
 | (j,w)::r,i,h=>by
  simp only[gh]at h;cases q:ay k j with
  |true=>grind[iQ,bH,jc,List.takeWhile]
  |false=>
   rw[q]at h;simp only[bH,jc,List.takeWhile,q,CV,cM,List.set_cons_succ,CK,true_and];rw[<-Da (i+1) h];congr 2;all_goals (first|rfl|omega)
theorem Cf(k:Int)(v:V)(l:List (Int×V)):rT (bH f l 0) l.length (.int .i64 k) (f v) (bv false 1 [(0,1)] (.int .i64 k) (bH f l 0) 0)=some (bH f (jc k v l) 0,(jc k v l).length):=by
 rw[tU];cases h:gh k l with
 |none=>grind[rT,vu,EP,bH]
 |some u=>
  have:=Da (f:=f) (v:=v) 0 h;grind[rT,lg,jS,kL,bQ,Gz]
theorem aD(hf:∀v,(f v).top=0):∀(l:List (Int×V))(i:Nat),fx (bH f l i)=0
 |[],_=>rfl
 |(j,v)::r,i=>by simp only[bH,fx,AV.top,hf v,aD hf r,XN]
end
theorem P8{sz ep n:Nat}{op:Bool}{xs:List AV}(h:aq xs=0):Nat.ble (AObj.row sz op ep xs).top n=true:=by simp_all[AObj.top]
theorem Xb{c n:Nat}{es:List AEnt}(h:fx es=0):Nat.ble (AObj.map es c).top n=true:=by simp_all[AObj.top]
theorem kV{α:Type}{f:α->AV}{l:List α}{i:Nat}{w:α}:(l.map f).set i (f w)=(l.set i w).map f:=by simp_all
theorem EW{α:Type}{f g:α->AV}(e:∀x,f x=g x){l:List α}{i:Nat}{w:α}:(l.map f).set i (g w)=(l.set i w).map f:=by simp_all
theorem RM(n:Nat):(Int.ofNat n).fdiv (2^min 1 IntKind.u64.bits)=Int.ofNat (n/2):=by
 have e:(2:Int)^min 1 IntKind.u64.bits=2:=rfl;grind
theorem gi{α:Type}{f:α->AV}{sz:Nat}(h:∀x,(Nat.beq (f x).cells.length sz&&fZ (f x))=true):∀(l:List α),dA sz (l.map f)=true
 |[]=>rfl
 |x::r=>by rw[eg,dA,h,gi h r];rfl
theorem dK{α:Type}{f:α->AV}{l ws:List α}:l.map f++ws.map f=(l++ws).map f:=by simp
theorem zW{α:Type}{f:α->AV}{l:List α}{n:Nat}:((l.map f).drop 0).take n=(l.take n).map f:=by simp_all
theorem Lv{α:Type}{f:α->AV}{l:List α}{n:Nat}(h:l.length=n):((l.map f).drop 0).take n=l.map f:=by grind[List.length_map]
theorem Tn{xs ys:List AV}{t:Bool}(h:ys=xs):Le (.ps ys false) (.ps xs t):=h▸Le.loose xs t
theorem Wp{xs:List AV}{n:Nat}(h:xs.length=n):(xs.drop 0).take n=xs:=by grind
theorem ya{α:Type}{f g:α->AV}{l ws:List α}(e:∀x,f x=g x):l.map f++ws.map g=(l++ws).map f:=by simp_all
theorem UT{α:Type}{f g:α->AV}{ws:List α}(e:∀x,f x=g x):ws.map g=ws.map f:=by simp_all
theorem ri{α:Type}[Inhabited α]{l:List α}{i:Nat}(f:α->AV){g:α->AV}(e:∀x,f x=g x)(h:i<l.length):jo (l.map f) i=some (g (gD l i)):=by grind[aR]
theorem An{α:Type}{f:α->AV}{s:Nat}(h:∀x,Nat.beq (f x).cells.length s=true):∀(l:List α),pc s (l.map f)=true
 |[]=>rfl
 |x::_=>h x
theorem Jq{α:Type}{f:α->AV}{l:List α}{h k:Nat}:((l.map f).take h).drop k=((l.take h).drop k).map f:=by simp_all
theorem Zb{α:Type}{f:α->AV}{l:List α}{k:Nat}:((l.map f).take (l.map f).length).drop k=(l.drop k).map f:=by rw[List.take_length,List.map_drop]
theorem g0{a b:Bool}(ha:a=true)(hb:b=true):(a&&b)=true:=by simp_all
theorem Le.wn{x:Int}{n:Nat}(h:x=Int.ofNat n/\n<2^62):Le (.int .i64 (Int.ofNat n)) (.int .i64 (IntKind.i64.wrap x)):=by grind[x8,Le.refl]
theorem IM{x:Int}{n:Nat}(h:x=Int.ofNat n/\n<2^62):Le (.int .u64 (Int.ofNat n)) (.int .u64 (IntKind.u64.wrap x)):=by grind[IntKind.wrap,IntKind.bits,Le.refl]
abbrev aH:=List UInt8
structure PWord where
 text:aH
 act:Int
 item:Int
 at_:Int
 deriving Inhabited
inductive TUnit where
 |mk (act item n kind:Int) (label:aH) (head words:List PWord) (kids:List TUnit)
 deriving Inhabited
namespace TUnit
def act:TUnit->Int|⟨a,_,_,_,_,_,_,_⟩=>a
def item:TUnit->Int|⟨_,a,_,_,_,_,_,_⟩=>a
def n:TUnit->Int|⟨_,_,a,_,_,_,_,_⟩=>a
def kind:TUnit->Int|⟨_,_,_,a,_,_,_,_⟩=>a
def label:TUnit->aH|⟨_,_,_,_,a,_,_,_⟩=>a
def head:TUnit->List PWord|⟨_,_,_,_,_,a,_,_⟩=>a
def words:TUnit->List PWord|⟨_,_,_,_,_,_,a,_⟩=>a
def kids:TUnit->List TUnit|⟨_,_,_,_,_,_,_,a⟩=>a
end TUnit
structure PStep where
 kind:Int
 label:aH
 deriving Inhabited
structure PStart where
 kind:Int
 day:Int
 event:aH
 deriving Inhabited
inductive PItem where
 |mk (kind:Int) (at_ to:List PStep) (where_ nth_:Int) (unit:TUnit) (old new:List aH) (label for_:aH) (start:PStart) (act item day:Int) (event:aH) (by_:List PItem)
 deriving Inhabited
namespace PItem
def kind:PItem->Int|⟨a,_,_,_,_,_,_,_,_,_,_,_,_,_,_,_⟩=>a
def at_:PItem->List PStep|⟨_,a,_,_,_,_,_,_,_,_,_,_,_,_,_,_⟩=>a
def to:PItem->List PStep|⟨_,_,a,_,_,_,_,_,_,_,_,_,_,_,_,_⟩=>a
def where_:PItem->Int|⟨_,_,_,a,_,_,_,_,_,_,_,_,_,_,_,_⟩=>a
def nth_:PItem->Int|⟨_,_,_,_,a,_,_,_,_,_,_,_,_,_,_,_⟩=>a
def unit:PItem->TUnit|⟨_,_,_,_,_,a,_,_,_,_,_,_,_,_,_,_⟩=>a
def old:PItem->List aH|⟨_,_,_,_,_,_,a,_,_,_,_,_,_,_,_,_⟩=>a
def new:PItem->List aH|⟨_,_,_,_,_,_,_,a,_,_,_,_,_,_,_,_⟩=>a
def label:PItem->aH|⟨_,_,_,_,_,_,_,_,a,_,_,_,_,_,_,_⟩=>a
def for_:PItem->aH|⟨_,_,_,_,_,_,_,_,_,a,_,_,_,_,_,_⟩=>a
def start:PItem->PStart|⟨_,_,_,_,_,_,_,_,_,_,a,_,_,_,_,_⟩=>a
def act:PItem->Int|⟨_,_,_,_,_,_,_,_,_,_,_,a,_,_,_,_⟩=>a
def item:PItem->Int|⟨_,_,_,_,_,_,_,_,_,_,_,_,a,_,_,_⟩=>a
def day:PItem->Int|⟨_,_,_,_,_,_,_,_,_,_,_,_,_,a,_,_⟩=>a
def event:PItem->aH|⟨_,_,_,_,_,_,_,_,_,_,_,_,_,_,a,_⟩=>a
def by_:PItem->List PItem|⟨_,_,_,_,_,_,_,_,_,_,_,_,_,_,_,a⟩=>a
end PItem
structure PAct where
 number:Int
 title:aH
 day:Int
 start:PStart
 items:List PItem
 deriving Inhabited
structure PGaz where
 number:Int
 day:Int
 prior:aH
 acts:List PAct
 deriving Inhabited
structure PDeed where
 act:Int
 item:Int
 day:Int
 it:PItem
 deriving Inhabited
structure PSpan where
 from_:Int
 to:Int
 deriving Inhabited
structure PFail where
 act:Int
 item:Int
 why:Int
 deriving Inhabited
noncomputable section
def nw(s:aH):AV:=.str s
def bW(n:Int):AV:=.int .i64 n
def aQ(w:PWord):AV:=.agg [.str w.text,.int .i64 w.act,.int .i64 w.item,.int .i64 w.at_]
mutual
def Bx:TUnit->List AV
 |⟨a,i,n,k,l,h,w,ks⟩=>[.int .i64 a,.int .i64 i,.int .i64 n,.int .i64 k,.str l,.ls (h.map aQ),.ls (w.map aQ),.ls (HT ks)]
def HT:List TUnit->List AV
 |[]=>[]
 |u::r=>.agg (Bx u)::HT r
end
def aY(u:TUnit):AV:=.agg (Bx u)
def az(s:PStep):AV:=.agg [.int .i64 s.kind,.str s.label]
def Bj(s:PStart):List AV:=[.int .i64 s.kind,.int .i64 s.day,.str s.event]
def ap(s:PStart):AV:=.agg (Bj s)
mutual
def KF:PItem->List AV
 |⟨k,a,t,w,nn,u,o,n,lb,fo,st,ac,it,dy,ev,by_⟩=>[.int .i64 k,.ls (a.map az),.ls (t.map az),.int .i64 w,.int .i64 nn]++Bx u++[.ls (o.map nw),.ls (n.map nw),.str lb,.str fo]++Bj st++[.int .i64 ac,.int .i64 it,.int .i64 dy,.str ev,.ls (H3 by_)]
def H3:List PItem->List AV
 |[]=>[]
 |u::r=>.agg (KF u)::H3 r
end
def OP(x:PItem):AV:=.agg (KF x)
def cU(u:TUnit):List AV:=[.int .i64 u.act,.int .i64 u.item,.int .i64 u.n,.int .i64 u.kind,.str u.label,.ls (u.head.map aQ),.ls (u.words.map aQ),.ls (u.kids.map aY)]
def eU(u:TUnit):AV:=.agg (cU u)
def cI(x:PItem):List AV:=[.int .i64 x.kind,.ls (x.at_.map az),.ls (x.to.map az),.int .i64 x.where_,.int .i64 x.nth_,
 .int .i64 x.unit.act,.int .i64 x.unit.item,.int .i64 x.unit.n,.int .i64 x.unit.kind,.str x.unit.label,.ls (x.unit.head.map aQ),.ls (x.unit.words.map aQ),.ls (x.unit.kids.map aY),
 .ls (x.old.map nw),.ls (x.new.map nw),.str x.label,.str x.for_,.int .i64 x.start.kind,.int .i64 x.start.day,.str x.start.event,.int .i64 x.act,.int .i64 x.item,.int .i64 x.day,.str x.event,.ls (x.by_.map OP)]
def eI(x:PItem):AV:=.agg (cI x)
def av(a:PAct):AV:=.agg [.int .i64 a.number,.str a.title,.int .i64 a.day,.int .i64 a.start.kind,.int .i64 a.start.day,.str a.start.event,.ls (a.items.map OP)]
def ae(g:PGaz):AV:=.agg [.int .i64 g.number,.int .i64 g.day,.str g.prior,.ls (g.acts.map av)]
def aU(d:PDeed):AV:=.agg (.int .i64 d.act::.int .i64 d.item::.int .i64 d.day::cI d.it)
def aV(s:PSpan):AV:=.agg [.int .i64 s.from_,.int .i64 s.to]
def dE(s:PFail):AV:=.agg [.int .i64 s.act,.int .i64 s.item,.int .i64 s.why]
end
theorem A5:∀(l:List TUnit),HT l=l.map aY
 |[]=>by rw[HT];rfl
 |u::r=>by rw[HT,A5 r];rfl
theorem H2:∀(l:List PItem),H3 l=l.map OP
 |[]=>by rw[H3];rfl
 |u::r=>by rw[H3,H2 r];rfl
theorem aO(u:TUnit):aY u=eU u:=by
 obtain⟨a,i,n,k,l,h,w,ks⟩:=u;rw[aY,Bx,A5];rfl
theorem ee(x:PItem):OP x=eI x:=by
 obtain⟨k,a,t,w,nn,⟨ua,ui,un,uk,ul,uh,uw,uks⟩,o,n,lb,fo,st,ac,it,dy,ev,by_⟩:=x;rw[OP,KF,Bx,H2,A5];rfl
theorem iH(w:PWord):(aQ w).top=0:=rfl
theorem Kk(w:aH):(nw w).top=0:=rfl
theorem YA(w:Int):(bW w).top=0:=rfl
theorem H0(w:PStep):(az w).top=0:=rfl
theorem WT(w:PSpan):(aV w).top=0:=rfl
theorem gz(w:PFail):(dE w).top=0:=rfl
theorem abn(u:PItem):(eI u).top=0:=rfl
theorem iZ(u:TUnit):(aY u).top=0:=by rw[aO];rfl
theorem H4(u:PItem):(OP u).top=0:=by rw[ee];rfl
theorem Km(w:PAct):(av w).top=0:=rfl
theorem Ki(w:PGaz):(ae w).top=0:=rfl
theorem xi(w:PDeed):(aU w).top=0:=rfl
mutual
def tV:TUnit->Prop
 |⟨_,_,_,_,_,h,w,kids⟩=>h.length<2^60/\w.length<2^60/\kids.length<2^60/\Hr kids
def Hr:List TUnit->Prop
 |[]=>True
 |u::r=>tV u/\Hr r
end
theorem Dz:∀{l:List TUnit},Hr l↔∀u,u∈l->tV u
 |[]=>by simp[Hr]
 |v::r=>by simp[Hr,Dz (l:=r)]
mutual
def nr:PItem->Prop
 |⟨_,a,t,_,_,u,o,n,_,_,_,_,_,_,_,by_⟩=>a.length<2^60/\t.length<2^60/\o.length<2^60/\n.length<2^60/\by_.length<2^60/\tV u/\Hs by_
def Hs:List PItem->Prop
 |[]=>True
 |u::r=>nr u/\Hs r
end
theorem Dx:∀{l:List PItem},Hs l↔∀u,u∈l->nr u
 |[]=>by simp[Hs]
 |v::r=>by simp[Hs,Dx (l:=r)]
theorem qP{u:TUnit}:tV u↔u.head.length<2^60/\u.words.length<2^60/\u.kids.length<2^60/\∀k,k∈u.kids->tV k:=by
 obtain⟨a,i,n,k,l,h,w,ks⟩:=u;rw[tV,Dz];exact Iff.rfl
theorem qR{x:PItem}:nr x↔x.at_.length<2^60/\x.to.length<2^60/\x.old.length<2^60/\x.new.length<2^60/\x.by_.length<2^60/\tV x.unit/\∀k,k∈x.by_->nr k:=by
 obtain⟨k,a,t,w,nn,u,o,n,lb,fo,st,ac,it,dy,ev,by_⟩:=x;rw[nr,Dx];exact Iff.rfl
def Yd(a:PAct):Prop:=a.items.length<2^60/\∀x,x∈a.items->nr x
def abl(g:PGaz):Prop:=g.acts.length<2^60/\∀a,a∈g.acts->Yd a
def pM(gs:List PGaz):Prop:=gs.length<2^60/\∀g,g∈gs->abl g
theorem Fy{u k:TUnit}(h:k∈u.kids):SizeOf.sizeOf k<SizeOf.sizeOf u:=by
 obtain⟨a,i,n,kk,l,hh,w,ks⟩:=u;have h:k∈ks:=h;have:=List.sizeOf_lt_of_mem h;grind
theorem II{u k:PItem}(h:k∈u.by_):SizeOf.sizeOf k<SizeOf.sizeOf u:=by
 obtain⟨kd,a,t,w,nn,uu,o,n,lb,fo,st,ac,it,dy,ev,by_⟩:=u;have h:k∈by_:=h;have:=List.sizeOf_lt_of_mem h;grind
theorem TUnit.ind{p:TUnit->Prop}(h:∀u,(∀k,k∈u.kids->p k)->p u)(u:TUnit):p u:=h u fun k hk=>TUnit.ind h k
termination_by SizeOf.sizeOf u
decreasing_by exact Fy hk
theorem PItem.ind{p:PItem->Prop}(h:∀u,(∀k,k∈u.by_->p k)->p u)(u:PItem):p u:=h u fun k hk=>PItem.ind h k
termination_by SizeOf.sizeOf u
decreasing_by exact II hk
structure KeyOf(K:Type)(ag:Bool)(sz:Nat)(lv:List (Nat×Nat))(kenc:K->AV)(keq:K->K->Bool):Prop where
 eq:∀a b,qH ag sz lv (kenc a) (kenc b)=some (keq a b)
 t:∀a b,keq a b=true->a=b
 refl:∀a,keq a a=true
 same:∀a,lg (kenc a) (kenc a)=true
 top:∀a,(kenc a).top=0
section
variable{K V:Type}{ag:Bool}{sz:Nat}{lv:List (Nat×Nat)}{kenc:K->AV}{keq:K->K->Bool}{f:V->AV}
noncomputable def bB(kenc:K->AV)(f:V->AV):List (K×V)->Nat->List AEnt
 |[],_=>[]
 |(k,v)::r,i=>⟨kenc k,f v,i⟩::bB kenc f r (i+1)
def oZ(keq:K->K->Bool)(k:K):List (K×V)->Option V
 |[]=>none
 |(j,v)::r=>match keq k j with|true=>some v|false=>oZ keq k r
def fH(keq:K->K->Bool)(k:K)(v:V):List (K×V)->List (K×V)
 |[]=>[(k,v)]
 |(j,u)::r=>match keq k j with|true=>(j,v)::r|false=>(j,u)::fH keq k v r
theorem tq(hk:KeyOf K ag sz lv kenc keq)(k:K):∀(l:List (K×V))(i:Nat),bv ag sz lv (kenc k) (bB kenc f l i) i=some (match oZ keq k l with|none=>none|some v=>some (i+(l.takeWhile fun p=>!(keq k p.1)).length,⟨kenc k,f v,i+(l.takeWhile fun p=>!(keq k p.1)).length⟩))
 |[],i=>rfl
 | (j,v)::r,i=>by
  simp only[bB,bv,hk.eq,oZ];cases h:keq k j with
  |true=>grind[nJ,List.takeWhile,cases KeyOf]
  |false=>
   simp only[nJ,tq hk k r (i+1),List.takeWhile,h,CV];grind
theorem Av(hk:KeyOf K ag sz lv kenc keq)(z:Option AV)(ok:Bool)(k:K)(l:List (K×V)):e9 z ok (bv ag sz lv (kenc k) (bB kenc f l 0) 0)=match oZ keq k l with|none=>nT ok z false|some v=>nT ok (some (f v)) true:=by
 rw[tq hk];cases oZ keq k l with
 |none=>rfl
 |some v=>rfl
theorem ER(l r:List (K×V)):∀(i:Nat),bB kenc f (l++r) i=bB kenc f l i++bB kenc f r (i+l.length):=by
 induction l with
 |nil=>intro i;rfl
 |cons x l ih=>
  intro i;obtain⟨j,v⟩:=x;simp only[yM,bB,ih,cM,CK,true_and,List.append_cancel_left_eq];grind
theorem Cu{k:K}{v:V}:∀{l:List (K×V)},oZ keq k l=none->fH keq k v l=l++[(k,v)]
 |[],_=>rfl
 |(j,u)::r,h=>by
  simp only[oZ]at h;cases q:keq k j with
  |true=>grind
  |false=>rw[q]at h;simp only[fH,q,yM,Cu h]
theorem Gj{k:K}{v u:V}:∀{l:List (K×V)},oZ keq k l=some u->(fH keq k v l).length=l.length
 |(j,w)::r,h=>by
  simp only[oZ]at h;cases q:keq k j with
  |true=>grind[fH]
  |false=>rw[q]at h;simp only[fH,q,cM,Gj h]
theorem Db(hk:KeyOf K ag sz lv kenc keq){k:K}{v u:V}:∀{l:List (K×V)}(i:Nat),oZ keq k l=some u->
  (bB kenc f l i).set (l.takeWhile fun p=>!(keq k p.1)).length ⟨kenc k,f v,i+(l.takeWhile fun p=>!(keq k p.1)).length⟩=bB kenc f (fH keq k v l) i
 | (j,w)::r,i,h=>by
  simp only[oZ]at h;cases q:keq k j with
  |true=>grind[bB,fH,List.takeWhile,cases KeyOf]
  |false=>
   rw[q]at h;simp only[bB,fH,List.takeWhile,q,CV,cM,List.set_cons_succ,CK,true_and];rw[<-Db hk (i+1) h];congr 2;all_goals (first|rfl|omega)
theorem Cg(hk:KeyOf K ag sz lv kenc keq)(k:K)(v:V)(l:List (K×V)):rT (bB kenc f l 0) l.length (kenc k) (f v) (bv ag sz lv (kenc k) (bB kenc f l 0) 0)=some (bB kenc f (fH keq k v l) 0,(fH keq k v l).length):=by
 rw[tq hk];grind[rT,Cu,ER,bB,Db,Gj,cases KeyOf]
theorem cw(hk:KeyOf K ag sz lv kenc keq)(hf:∀v,(f v).top=0):∀(l:List (K×V))(i:Nat),fx (bB kenc f l i)=0
 |[],_=>rfl
 |(j,v)::r,i=>by simp only[bB,fx,hk.top,hf v,cw hk hf r,XN]
variable[Inhabited K][Inhabited V]{l:List (K×V)}{seen:List Nat}
theorem HP:∀{l:List (K×V)}{n i:Nat},i<l.length->(⟨kenc (gD l i).1,f (gD l i).2,n+i⟩:AEnt)∈bB kenc f l n
 |(k,v)::r,n,0,_=>by simp[bB,gD]
 |(k,v)::r,n,i+1,h=>by
  have:=HP (l:=r) (n:=n+1) (i:=i) (by simp_all);have e:n+1+i=n+(i+1):=by omega
  rw[e]at this;simp only[bB,dO];exact .inr this
theorem Dc{e:AEnt}:∀{l:List (K×V)}{n:Nat},e∈bB kenc f l n->∃i,i<l.length/\e=⟨kenc (gD l i).1,f (gD l i).2,n+i⟩
 |[],_,h=>by grind[bB]
 |(k,v)::r,n,h=>by
  simp only[bB,dO]at h;rcases h with h|h
  ·exact⟨0,by simp,by grind[gD]⟩
  ·obtain⟨i,h1,h2⟩:=Dc h;exact⟨i+1,by simp_all,by rw[h2,show n+1+i=n+(i+1)from by omega];rfl⟩
theorem KY:l.length=l.length/\∀e,e∈bB kenc f l 0->e.born<l.length/\(e.born∈seen\/∃y,(y<l.length/\¬y∈seen)/\e.key=kenc (gD l y).1/\e.val=f (gD l y).2/\e.born=y):=
 ⟨rfl,fun e h=>by grind[Dc]⟩
theorem KU(h:∀e,e∈bB kenc f l 0->e.born∈seen):∀i,i<l.length->i∈seen:=fun i hi=>by
 have:=h _ (HP hi);simp_all
theorem C8:∀(s:List Nat)(i:Nat),xK (s++[i])=some i
 |[],_=>rfl
 |[_],_=>rfl
 |x::y::r,i=>C8 (y::r) i
theorem rQ:∀{l:List (K×V)}{n i:Nat},i<l.length->kg (n+i) (bB kenc f l n)=some ⟨kenc (gD l i).1,f (gD l i).2,n+i⟩
 |(k,v)::r,n,0,_=>by simp[bB,gD,kg]
 | (k,v)::r,n,i+1,h=>by
  have e:Nat.beq n (n+(i+1))=false:=by
   cases q:Nat.beq n (n+(i+1))with
   |false=>rfl
   |true=>simp_all
  simp only[bB,kg,e];have:=rQ (l:=r) (n:=n+1) (i:=i) (by simp_all);rw[show n+1+i=n+(i+1)from by omega]at this;rw[this];rfl
theorem HO{s:List Nat}{i:Nat}(h:i<l.length):l.length=l.length/\HR (Bw (bB kenc f l 0) (xK (s++[i])))=some (.tuple [kenc (gD l i).1,f (gD l i).2]):=
 ⟨rfl,by
  rw[C8];have:=rQ (kenc:=kenc) (f:=f) (l:=l) (n:=0) h;grind[Bw,HR]⟩
end
section
variable{V:Type}{f:V->AV}[Inhabited V]{l:List (Int×V)}{seen:List Nat}
omit [Inhabited V]in
theorem yi:∀(l:List (Int×V))(n:Nat),bH f l n=bB (.int .i64 ·) f l n
 |[],_=>rfl
 |(k,v)::r,n=>by simp only[bH,bB,yi r]
theorem AO:l.length=l.length/\∀e,e∈bH f l 0->e.born<l.length/\(e.born∈seen\/∃y,(y<l.length/\¬y∈seen)/\e.key=.int .i64 (gD l y).1/\e.val=f (gD l y).2/\e.born=y):=by rw[yi];exact KY
theorem AP(h:∀e,e∈bH f l 0->e.born∈seen):∀i,i<l.length->i∈seen:=by rw[yi]at h;exact KU h
theorem xf{s:List Nat}{i:Nat}(h:i<l.length):l.length=l.length/\HR (Bw (bH f l 0) (xK (s++[i])))=some (.tuple [.int .i64 (gD l i).1,f (gD l i).2]):=by grind[yi,HO]
end
noncomputable def lI(p:Int×Int):AV:=.agg [.int .i64 p.1,.int .i64 p.2]
def pi(a b:Int×Int):Bool:=ay a.1 b.1&&ay a.2 b.2
theorem jY:KeyOf (Int×Int) true 2 [(0,1),(1,1)] lI pi where
 eq a b:=by
  show xN [.int .i64 a.1,.int .i64 a.2] [.int .i64 b.1,.int .i64 b.2] [(0,1),(1,1)]=_
  simp only[xN,jo,Tt,KK,kL,pi];cases h1:ay a.1 b.1<;>cases h2:ay a.2 b.2<;>rfl
 t a b h:=by
  simp only[pi,bz]at h;grind[iQ]
 refl a:=by simp[pi,bQ]
 same a:=by simp[lI,lg,jB,jS,kL,bQ]
 top a:=rfl
end Go.Ev
namespace Go.Ev
open Go
section
variable{P:Program}{G:eB}{pl:Pl}{M:dl}{h:AHeap}{w w':World}
theorem Ny{x:AV}{vs:Array Value}(hv:VRels pl M [x] vs):∃a,vs=#[a]/\VRel pl M x a:=by
 obtain⟨l⟩:=vs
 match l,hv with
 |[a],hv=>exact⟨a,rfl,hv.at_ 0 x rfl⟩
 |[],hv=>grind[cases VRels]
 |_::_::_,hv=>grind[cases VRels]
theorem Bg{x y:AV}{vs:Array Value}(hv:VRels pl M [x,y] vs):∃a b,vs=#[a,b]/\VRel pl M x a/\VRel pl M y b:=by
 obtain⟨l⟩:=vs
 match l,hv with
 |[a,b],hv=>exact⟨a,b,rfl,hv.at_ 0 x rfl,hv.at_ 1 y rfl⟩
 |[],hv=>grind[cases VRels]
 |[_],hv=>grind[cases VRels]
 |_::_::_::_,hv=>grind[cases VRels]
theorem zl{f:Fn}{a:Value}(hv:VRel pl M (.func f [] []) a):a=.func f #[] #[]:=by grind[cases VRel]
theorem rj:VRel pl M (.tuple []) (.tuple #[]):=.tuple rfl fun j y h=>by simp_all
end
end Go.Ev
