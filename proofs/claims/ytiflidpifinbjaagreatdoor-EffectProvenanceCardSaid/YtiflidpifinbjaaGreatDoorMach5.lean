/- An abstract machine for runs of the program, proved sound against the model: part 5. No conditions. -/
import Derived.Test.YtiflidpifinbjaaGreatDoorMach4
import Derived.Sort.Grow
namespace Go.Ev
open Go
inductive D:Type 1
 |fin
 |abs
 |go (n:Nat) (d:D)
 |val (v:AV) (d:D)
 |opv (v:AV) (h:AHeap) (d:D)
 |elem (x:AV) (d:D)
 |chr (c:UInt8) (d:D)
 |app (d:D)
 |pk (w:Bool) (d:D)
 |efd (v:AV) (h:AHeap) (d:D)
 |efx (same:Bool) (v:AV) (h:AHeap) (d:D)
 |look (v:AV) (d:D)
 |upd (es:laq) (c:Nat) (d:D)
 |nz (t:Nat) (a b:D)
 |slc (d:D)
 |slp (ys:laa) (d:D)
 |apx (ys:laa) (d:D)
 |apl (d:D)
 |pure (v:AV) (d:D)
 |asl (u:AV) (d:D)
 |rix (d:D)
 |rld (x:AV) (d:D)
 |rst (x:AV) (xs:laa) (d:D)
 |eff (Y:Type) (r:Y->AV) (hp:Y->AHeap) (I:Y->Prop) (d:Y->D)
 |tt (d:D)
 |ff (d:D)
 |br (a b:D)
 |le (t:Nat) (u:AV) (d:D)
 |frz (k:Nat) (ts:laf) (d:D)
 |frl (k:Nat) (ts ls:laf) (d:D)
 |psh (o:AObj) (d:D)
 |un (n:Nat) (d:D)
 |inn (d:D)
 |fsl (k:Nat) (ts:laf) (t:Nat) (ys:laa) (d:D)
 |ren (ids pl ts:laf) (d:D)
 |obj (i:Nat) (o:AObj) (d:D)
 |obw (i:Nat) (u:AV) (d:D)
 |fzo (i k:Nat) (ts:laf) (ys:laa) (d:D)
 |fza (i j k:Nat) (ts:laf) (ys:laa) (d:D)
 |cs (T:Type) (l:List T) (a:D) (b:T->List T->D)
 |bs (t:Bool) (a b:D)
 |ex (T:Type) (p:T->Prop) (d:T->D)
 |join (X:Type) (ts:laf) (S:X->laa×lai) (I:X->Prop) (d:D) (d':X->D)
 |loop (X:Type) (ts:laf) (S:X->laa×lai) (I:X->Prop) (m:X->Nat) (x0:X) (d:X->D)
 |loop2 (X Y:Type) (ts:laf) (S:X->laa×lai) (S':Y->laa×lai) (I:X->Prop) (I':Y->Prop) (m:X->Nat) (m':Y->Nat) (x0:X ⊕ Y) (d:X->D) (d':Y->D)
noncomputable section
def nx(n:Nat)(d:D):D:=match n with|0=>d|m+1=>.go m d
inductive Gd where
 |yes|no|sym (b want:Bool)|bad
def Cp(A:Fr):Option (lau×Bool)->Gd
 |none=>.yes
 |some (some d,want)=>match A.get d with
  |some (.bool b)=>.sym b want
  |some (.tuple [])=>.no
  |_=>.bad
 |some (none,_)=>.no
def uI(want:Bool)(a b:Prop):Prop:=match want with|true=>a|false=>b
def WPg(g:Gd)(d:D)(y n:D->Prop):Prop:=
 match g with
 | .yes=>y d
 | .no=>n d
 | .bad=>False
 | .sym b want=>match d with
  | .tt d'=>b=true/\uI want (y d') (n d')
  | .ff d'=>b=false/\uI want (n d') (y d')
  | .br d1 d2=>(b=true->uI want (y d1) (n d1))/\(b=false->uI want (n d2) (y d2))
  |d=>match b with|true=>uI want (y d) (n d)|false=>uI want (n d) (y d)
def my(A:Fr)(dst:lau)(v:AV)(K:Fr->Prop):Prop:=match jU A dst v with|some A'=>K A'|none=>False
def vG(r:lay)(K:AV->AHeap->Prop):Prop:=match r with|some (.val v h)=>K v h|_=>False
theorem yU{r:lay}{K:AV->AHeap->Prop}(h:vG r K):∃v h1,r=some (.val v h1)/\K v h1:=by
 unfold vG at h;grind
def mQ(r:lay)(K:FuncId->laa->Prop):Prop:=match r with|some (.call f args)=>K f args|_=>False
def aaP:lae->lbh
 |some (.ls xs)=>some xs
 |some (.ps xs _)=>some xs
 |_=>none
def R4:lae->lan
 |some v=>gX v
 |none=>none
def Ii(P:Program)(G:fz)(op:Op)(A:Fr):Option (laa×Nat×Nat):=match op with
 | .indexAddr t x i=>match P.underlying t with
  | some (.slice e)=>match dV P e with
   |some (s+1)=>match aaP ((cA G x).run A),R4 ((cA G i).run A)with
    |some xs,some k=>some (xs,k,s+1)
    |_,_=>none
   |_=>none
  |_=>none
 |_=>none
def vc(r:Option (laa×Nat×Nat))(x:AV)(K:Prop):Prop:=match r with
 |some (xs,i,s)=>match Nat.beq x.cells.length s with|true=>jI xs i=some x/\K|false=>False
 |none=>False
def Zc(P:Program)(G:fz)(op:Op)(A:Fr):Option (lar×Nat):=match op with
 | .index t x i=>match P.underlying t with
  |some .string=>match(cA G x).run A,R4 ((cA G i).run A)with
   |some (.str s),some k=>some (s,k)
   |_,_=>none
  |_=>none
 |_=>none
def FB(r:Option (lar×Nat))(c:UInt8)(K:Prop):Prop:=match r with
 |some (s,i)=>jI s i=some c/\K
 |none=>False
def pkR(G:fz)(w:Bool)(op:Op)(A:Fr):Option (Bool×AV):=match op with
 | .pick c a b=>match(cA G c).run A with
  |some (.bool t)=>match w with
   |true=>match(cA G a).run A with|some v=>some (t,v)|none=>none
   |false=>match(cA G b).run A with|some v=>some (t,v)|none=>none
  |_=>none
 |_=>none
def ER(w:Bool)(r:Option (Bool×AV))(K:AV->Prop):Prop:=match r with
 |some (t,v)=>t=w/\K v
 |none=>False
structure Look where
 ag:Bool
 sz:Nat
 lv:List (Nat×Nat)
 z:lae
 ok:Bool
 id:Nat
 k:AV
 v:AV
def pu(P:Program)(G:fz)(op:Op)(A:Fr):Option Look:=match op with
 | .lookup t m k ok=>match P.underlying t with
  | some (.map kt e)=>match dW P kt,dV P kt,eW P 10 kt 0 with
   |some ag,some sz,some lv=>match(cA G m).run A,(cA G k).run A with
    |some (.map id),some k=>match Hm ag sz k with|true=>some ⟨ag,sz,lv,iP P e,ok,id,k,gh⟩|false=>none
    |_,_=>none
   |_,_,_=>none
  |_=>none
 | .mapUpdate t m k x| .insert t m k x=>match P.underlying t with
  | some (.map kt _)=>match dW P kt,dV P kt,eW P 10 kt 0 with
   |some ag,some sz,some lv=>match(cA G m).run A,(cA G k).run A,(cA G x).run A with
    |some (.map id),some k,some x=>match Hm ag sz k with|true=>some ⟨ag,sz,lv,none,false,id,k,x⟩|false=>none
    |_,_,_=>none
   |_,_,_=>none
  |_=>none
 |_=>none
def R8:Op->Bool
 | .lookup ..=>true
 |_=>false
def XG:Op->Bool
 | .mapUpdate .. | .insert ..=>true
 |_=>false
def vQ(op:Op)(h:AHeap)(r:Option Look)(v:AV)(K:Prop):Prop:=match R8 op,r with
 |true,some l=>match h.get l.id with
  |some (.map es _)=>fW l.z l.ok (bf l.ag l.sz l.lv l.k es 0)=some v/\K
  |_=>False
 |_,_=>False
def qL(es:laq)(clock:Nat)(k v:AV):Option (Option (Nat×AEnt))->Option (laq×Nat)
 |some (some (i,en))=>match lp k en.key with|true=>some (es.set i {en with val:=v},clock)|false=>none
 |some none=>some (es++[{key:=k,val:=v,born:=clock}],clock+1)
 |none=>none
def yF(op:Op)(h:AHeap)(r:Option Look)(es':laq)(c':Nat)(K:AHeap->Prop):Prop:=match XG op,r with
 |true,some l=>match h.get l.id with
  |some (.map es c)=>qL es c l.k l.v (bf l.ag l.sz l.lv l.k es 0)=some (es',c')/\K (h.put l.id (.map es' c'))
  |_=>False
 |_,_=>False
structure App where
 id:Nat
 ep:Nat
 len:Nat
 new:laa
 sz:Nat
 b:Nat
def abz(h:AHeap)(sz b:Nat):lae->lae->Option App
 |some (.slice id ep 0 len none),some x=>match kh h x with
  |some (y::ys)=>match dL sz (y::ys)with|true=>some ⟨id,ep,len,y::ys,sz,b⟩|false=>none
  |_=>none
 |_,_=>none
def TP(P:Program)(G:fz)(op:Op)(A:Fr)(h:AHeap):Option App:=match op with
 | .call {callee:=.builtin .append,args,argTypes}=>match args.toList with
  | [s,x]=>match(argTypes[0]?).bind (fU P),(argTypes[1]?).bind P.underlying with
   | some e,some (.slice _)=>match P.info? e with
    | some i=>match i.size,iP P e with
     |sz+1,some z=>match Nat.beq z.cells.length (sz+1)with
      |true=>abz h (sz+1) i.bytes ((cA G s).run A) ((cA G x).run A)
      |false=>none
     |_,_=>none
    |none=>none
   |_,_=>none
  |_=>none
 |_=>none
def FH(h:AHeap)(a:Option App)(K:AV->AHeap->Prop):Prop:=match a with
 | some a=>match h.get a.id with
  |some (.row sz true ep xs)=>match Nat.beq sz a.sz with
   |true=>(a.ep=ep/\a.len=xs.length/\small (a.len+a.new.length) a.b=true)/\K (.slice a.id (a.ep+1) 0 (a.len+a.new.length) none) (h.put a.id (.row sz true (ep+1) (xs++a.new)))
   |false=>False
  |_=>False
 |none=>False
structure Apl where
 s:AV
 ys:laa
 sz:Nat
 b:Nat
def abA(h:AHeap)(sz b:Nat):lae->lae->Option Apl
 |some s,some x=>match kh h x with
  |some ys=>some ⟨s,ys,sz,b⟩
  |none=>none
 |_,_=>none
def OQ(P:Program)(G:fz)(op:Op)(A:Fr)(h:AHeap):Option Apl:=match op with
 | .call {callee:=.builtin .append,args,argTypes}=>match args.toList with
  | [s,x]=>match(argTypes[0]?).bind (fU P),(argTypes[1]?).bind P.underlying with
   | some e,some (.slice _)=>match P.info? e with
    | some i=>match i.size,iP P e with
     |sz+1,some z=>match Nat.beq z.cells.length (sz+1)with
      |true=>abA h (sz+1) i.bytes ((cA G s).run A) ((cA G x).run A)
      |false=>none
     |_,_=>none
    |none=>none
   |_,_=>none
  |_=>none
 |_=>none
def zq(h:AHeap)(a:Option Apl)(K:AV->AHeap->Prop):Prop:=match a with
 | some a=>(a.ys≠[]/\dL a.sz a.ys=true)/\match a.s with
  | .nils=>small a.ys.length a.b=true/\K (.slice h.n 0 0 a.ys.length none) (h.push (.row a.sz true 0 a.ys))
  | .ps [] true=>small a.ys.length a.b=true/\K (.slice h.n 0 0 a.ys.length none) (h.push (.row a.sz true 0 a.ys))
  | .ps (z::zs) true=>(small ((z::zs).length+a.ys.length) a.b=true/\dL a.sz (z::zs)=true)/\K (.slice h.n 0 0 (z::zs++a.ys).length none) (h.push (.row a.sz true 0 (z::zs++a.ys)))
  | .slice id ep 0 len none=>match h.get id with
   |some (.row sz true ep' xs)=>match Nat.beq sz a.sz with
    |true=>(ep=ep'/\len=xs.length/\small (len+a.ys.length) a.b=true)/\K (.slice id (ep+1) 0 (len+a.ys.length) none) (h.put id (.row sz true (ep+1) (xs++a.ys)))
    |false=>False
   |_=>False
  |_=>False
 |none=>False
def JX(h:AHeap)(a:Option Apl)(xs':laa)(K:AV->AHeap->Prop):Prop:=match a with
 | some a=>(a.ys≠[]/\dL a.sz a.ys=true)/\match a.s with
  | .nils=>(a.ys=xs'/\small a.ys.length a.b=true)/\K (.slice h.n 0 0 a.ys.length none) (h.push (.row a.sz true 0 xs'))
  | .ps [] true=>(a.ys=xs'/\small a.ys.length a.b=true)/\K (.slice h.n 0 0 a.ys.length none) (h.push (.row a.sz true 0 xs'))
  | .ps (z::zs) true=>((z::zs++a.ys=xs'/\small ((z::zs).length+a.ys.length) a.b=true)/\dL a.sz (z::zs)=true)/\K (.slice h.n 0 0 xs'.length none) (h.push (.row a.sz true 0 xs'))
  | .slice id ep 0 len none=>match h.get id with
   |some (.row sz true ep' xs)=>match Nat.beq sz a.sz with
    |true=>((ep=ep'/\len=xs.length/\small (len+a.ys.length) a.b=true)/\xs++a.ys=xs')/\K (.slice id (ep+1) 0 (len+a.ys.length) none) (h.put id (.row sz true (ep+1) xs'))
    |false=>False
   |_=>False
  |_=>False
 |none=>False
theorem acI{h:AHeap}{a:Option Apl}{xs':laa}{K:AV->AHeap->Prop}(e:JX h a xs' K):zq h a K:=by
 cases a with
 |none=>exact e.elim
 | some a=>
  obtain⟨s,ys,sz,b⟩:=a;obtain⟨h1,e⟩:=e;refine⟨h1,?_⟩;simp only[]at e ⊢;split at e
  ·grind
  ·grind
  ·simp_all
  ·split at e
   ·rename_i hg;try simp only[hg]
    split at e
    ·rename_i hb;try simp only[hb]
     grind
    omega
   omega
  omega
structure Rix where
 id:Nat
 ep:Nat
 ep':Nat
 off:Nat
 i:Nat
 len:Nat
def ME(P:Program)(G:fz)(op:Op)(A:Fr)(h:AHeap):Option Rix:=match op with
 | .indexAddr t x i=>match P.underlying t with
  | some (.slice e)=>match dV P e with
   | some (s+1)=>match(cA G x).run A,R4 ((cA G i).run A)with
    |some (.slice id ep off len _),some k=>match h.get id with
     |some (.row sz _ ep' _)=>match Nat.beq sz (s+1)with|true=>some ⟨id,ep,ep',off,k,len⟩|false=>none
     |_=>none
    |some (.sl0 id ep len _),some k=>match h.get id with
     |some (.row sz _ ep' _)=>match Nat.beq sz (s+1)with|true=>some ⟨id,ep,ep',0,k,len⟩|false=>none
     |_=>none
    |_,_=>none
   |_=>none
  |_=>none
 |_=>none
def FT(off i:Nat):Nat:=match off with|0=>i|k+1=>(k+1)+i
def yO(r:Option Rix)(K:AV->Prop):Prop:=match r with
 |some q=>(q.ep=q.ep'/\q.i<q.len)/\K (.ptr q.id q.ep (FT q.off q.i) 0)
 |none=>False
structure Slc where
 id:Nat
 ep:Nat
 ep':Nat
 off:Nat
 lo:Nat
 hi:Nat
 n:Nat
def YJ(h l:Nat):Nat:=match l with|0=>h|k+1=>h-(k+1)
def O8(G:fz)(A:Fr)(d:Nat):Option Operand->lan
 |none=>some d
 |some x=>R4 ((cA G x).run A)
def MZ(P:Program)(G:fz)(op:Op)(A:Fr)(h:AHeap):Option Slc:=match op with
 | .slice t x lo hi none=>match P.underlying t with
  | some (.slice e)=>match dV P e with
   | some (s+1)=>match(cA G x).run A with
    |some (.slice id ep off len none)=>match O8 G A 0 lo,O8 G A len hi,h.get id with
     |some l,some hh,some (.row sz _ ep' xs)=>match Nat.beq sz (s+1)with|true=>some ⟨id,ep,ep',off,l,hh,xs.length⟩|false=>none
     |_,_,_=>none
    |_=>none
   |_=>none
  |_=>none
 |_=>none
def yL(r:Option Slc)(K:AV->Prop):Prop:=match r with
 |some q=>(q.ep=q.ep'/\q.lo<=q.hi/\FT q.off q.hi<=q.n)/\K (.slice q.id q.ep (FT q.off q.lo) (YJ q.hi q.lo) none)
 |none=>False
structure Slp where
 xs:laa
 sz:Nat
 lo:Nat
 hi:Nat
def L9(P:Program)(G:fz)(op:Op)(A:Fr):Option Slp:=match op with
 | .slice t x lo hi none=>match P.underlying t with
  | some (.slice e)=>match dV P e with
   | some (s+1)=>match(cA G x).run A with
    |some (.ls xs)=>match O8 G A 0 lo,O8 G A xs.length hi with
     |some l,some hh=>some ⟨xs,s+1,l,hh⟩
     |_,_=>none
    |_=>none
   |_=>none
  |_=>none
 |_=>none
def yI(r:Option Slp)(ys:laa)(K:AV->Prop):Prop:=match r with
 |some q=>(pE q.sz q.xs=true/\(q.lo<=q.hi/\q.hi<=q.xs.length)/\(q.xs.take q.hi).drop q.lo=ys)/\K (.ls ys)
 |none=>False
structure Rld where
 ep:Nat
 ep':Nat
 xs:laa
 i:Nat
 off:Nat
 ag:Bool
 n:Nat
def MD(P:Program)(G:fz)(op:Op)(A:Fr)(h:AHeap):Option Rld:=match op with
 | .load t a=>match dW P t,dV P t with
  | some ag,some n=>match(cA G a).run A with
   |some (.ptr id ep i off)=>match h.get id with
    |some (.row _ _ ep' xs)=>some ⟨ep,ep',xs,i,off,ag,n⟩
    |_=>none
   |_=>none
  |_,_=>none
 |_=>none
def yN(r:Option Rld)(x:AV)(K:AV->Prop):Prop:=match r with
 |some q=>match uL q.ag q.n x.cells q.off with
  |some v=>(q.ep=q.ep'/\jI q.xs q.i=some x)/\K v
  |none=>False
 |none=>False
structure Rst where
 id:Nat
 ep:Nat
 ep':Nat
 sz:Nat
 op:Bool
 xs:laa
 i:Nat
 off:Nat
 v:AV
def MA(P:Program)(G:fz)(op:Op)(A:Fr)(h:AHeap):Option Rst:=match op with
 | .store t a x=>match dV P t with
  | some n=>match(cA G a).run A,(cA G x).run A with
   | some (.ptr id ep i off),some v=>match h.get id with
    |some (.row sz op ep' xs)=>match Nat.beq v.cells.length n&&fj v with
     |true=>some ⟨id,ep,ep',sz,op,xs,i,off,v⟩
     |false=>none
    |_=>none
   |_,_=>none
  |none=>none
 |_=>none
def yM(h:AHeap)(r:Option Rst)(x:AV)(xs':laa)(K:AHeap->Prop):Prop:=match r with
 |some q=>match uD x q.off q.v with
  |some y=>(q.ep=q.ep'/\jI q.xs q.i=some x/\q.xs.set q.i y=xs')/\K (h.put q.id (.row q.sz q.op q.ep' xs'))
  |none=>False
 |none=>False
def Nx{X:Type}(I:X->Prop)(m:X->Nat)(S:X->laa×lai)(x:X)(p:laa×lai):Prop:=∃y,I y/\m y<m x/\p=S y
def UA(n:Nat)(ts:laf)(p:laa×lai):St:=⟨eh n (ts.zip p.1),aw p.2⟩
section
variable(P:Program)(G:fz)(call:cn)(m:Nat)
def EI:laa->Bool
 |[]=>true
 |x::r=>dq x&&EI r
def nI(h:AHeap)(n:Nat):Nat->Prop
 |0=>True
 |k+1=>match h.get k with
  |some o=>Nat.ble o.top n=true/\nI h n k
  |none=>nI h n k
def Q6(h:AHeap)(ids pl:laf):laf->(lai->Prop)->Prop
 |[],K=>K []
 | i::r,K=>match h.get i with
  | some o=>match ja i pl with
   |true=>o.top=0/\Q6 h ids pl r λL=>K (o::L)
   |false=>match uv ids o with
    |true=>Q6 h ids pl r λL=>K (kn (λi=>kV i ids 0) o::L)
    |false=>False
  |none=>False
def pre:D->St->(D->St->Prop)->Prop
 | .le t u d,s,K=>match s.tmps.get t with
  |some v=>Le u v/\(match jU s.tmps (some t) u with|some A'=>pre d ⟨A',s.heap⟩ K|none=>False)
  |none=>False
 | .frz k ts d,s,K=>match Nat.ble m k&&Nat.ble k s.heap.n with
  | true=>nI s.heap k k/\match frzL s.tmps s.heap k ts with
   |some L=>match eF s.heap k 0 with
    |some os=>pre d ⟨eh s.tmps.n L,aw os⟩ K
    |none=>False
   |none=>False
  |false=>False
 | .psh o d,s,K=>pre d ⟨s.tmps,s.heap.push o⟩ K
 | .frl k ts ls d,s,K=>match Nat.ble m k&&Nat.ble k s.heap.n with
  |true=>nI s.heap k k/\Hd s.tmps k ls/\match frzL s.tmps s.heap k ts,Dr s.tmps ls,eF s.heap k 0 with
   |some L,some K',some os=>pre d ⟨eh s.tmps.n (K'++L),aw os⟩ K
   |_,_,_=>False
  |false=>False
 | .fsl k ts t ys d,s,K=>match Nat.ble m k&&Nat.ble k s.heap.n with
  | true=>nI s.heap k k/\match frzL s.tmps s.heap k ts,s.tmps.get t with
   |some L,some (.slice id ep off len cap)=>match Nat.ble k id,s.heap.get id,eF s.heap k 0 with
    |true,some (.row _ _ ep' xs),some os=>(ep=ep'/\(xs.drop off).take len=ys/\az ys=0)/\pre d ⟨eh s.tmps.n ((t,.ps ys (oI cap (some len)))::L),aw os⟩ K
    |_,_,_=>False
   |_,_=>False
  |false=>False
 | .ren ids pl ts d,s,K=>match Ae ids&&Bj ids m with
  |true=>match OB s.tmps ids ts with
   |some L=>Q6 s.heap ids pl ids λos=>pre d ⟨eh s.tmps.n L,aw os⟩ K
   |none=>False
  |false=>False
 | .obj i o d,s,K=>match s.heap.get i with
  |some o'=>o'=o/\pre d ⟨s.tmps,s.heap.put i o⟩ K
  |none=>False
 | .obw i u d,s,K=>match s.heap.get i with
  |some (.row sz op ep [v])=>match Nat.beq u.cells.length v.cells.length&&fj u&&EI u.cells with
   |true=>(∀(j:Nat)(y:AV),u.cells[j]?=some y->∃x:AV,v.cells[j]?=some x/\Le y x)/\pre d ⟨s.tmps,s.heap.put i (.row sz op ep [u])⟩ K
   |false=>False
  |_=>False
 | .fzo i k ts ys d,s,K=>match Nat.ble m k&&Nat.ble k s.heap.n&&Nat.blt i k with
  | true=>match s.heap.get i with
   |some (.row sz op ep' [.slice id ep off len cap])=>match Nat.ble k id,s.heap.get id,frzL s.tmps s.heap k ts,eF (s.heap.put i (.row sz op ep' [.ls ys])) k 0 with
    |true,some (.row _ _ ep2 xs),some L,some os=>nI (s.heap.put i .dead) k k/\(ep=ep2/\(xs.drop off).take len=ys/\az ys=0)/\pre d ⟨eh s.tmps.n L,aw os⟩ K
    |_,_,_,_=>False
   |_=>False
  |false=>False
 | .fza i j k ts ys d,s,K=>match Nat.ble m k&&Nat.ble k s.heap.n&&Nat.blt i k with
  | true=>match s.heap.get i with
   | some (.row sz op ep' [.agg cs])=>match jI cs j with
    |some (.slice id ep off len cap)=>match Nat.ble k id,s.heap.get id,frzL s.tmps s.heap k ts,eF (s.heap.put i (.row sz op ep' [.agg (cs.set j (.ls ys))])) k 0 with
     |true,some (.row _ _ ep2 xs),some L,some os=>nI (s.heap.put i (.row sz op ep' [.agg (cs.set j (.ls ys))])) k k/\(ep=ep2/\(xs.drop off).take len=ys/\az ys=0)/\pre d ⟨eh s.tmps.n L,aw os⟩ K
     |_,_,_,_=>False
    |some (.sl0 id ep len cap)=>match Nat.ble k id,s.heap.get id,frzL s.tmps s.heap k ts,eF (s.heap.put i (.row sz op ep' [.agg (cs.set j (.ls ys))])) k 0 with
     |true,some (.row _ _ ep2 xs),some L,some os=>nI (s.heap.put i (.row sz op ep' [.agg (cs.set j (.ls ys))])) k k/\(ep=ep2/\(xs.drop 0).take len=ys/\az ys=0)/\pre d ⟨eh s.tmps.n L,aw os⟩ K
     |_,_,_,_=>False
    |_=>False
   |_=>False
  |false=>False
 | .abs,_,_=>False
 | .cs _ l a b,s,K=>(l=[]->pre a s K)/\(∀w r,l=w::r->pre (b w r) s K)
 | .bs t a b,s,K=>(t=true->pre a s K)/\(t=false->pre b s K)
 | .ex _ p d,s,K=>(∃x,p x)/\∀x,p x->pre (d x) s K
 |d,s,K=>K d s
def abN(o:Oper)(d:D)(s:St)(K:D->St->Prop):Prop:=
 match d with
 | .go n d'=>match behind call s.heap ((fc P G o.op).run s.tmps s.heap)with
  |some (v,h')=>my s.tmps o.dst v λA=>K (nx n d') ⟨A,h'⟩
  |none=>False
 | .opv v h' d'=>(fc P G o.op).run s.tmps s.heap=some (.val v h')/\my s.tmps o.dst v λA=>K d' ⟨A,h'⟩
 | .val v d'=>(fc P G o.op).run s.tmps s.heap=some (.val v s.heap)/\my s.tmps o.dst v λA=>K d' ⟨A,s.heap⟩
 | .elem x d'=>vc (Ii P G o.op s.tmps) x (my s.tmps o.dst (.pptr [x] 0 0) λA=>K d' ⟨A,s.heap⟩)
 | .chr c d'=>FB (Zc P G o.op s.tmps) c (my s.tmps o.dst (.int .u8 (.ofNat c.toNat)) λA=>K d' ⟨A,s.heap⟩)
 | .efd v h' d'=>mQ ((fc P G o.op).run s.tmps s.heap) λf args=>aO P G f args s.heap (λv1 h1=>v1=v/\h1=h')/\my s.tmps o.dst v λA=>K d' ⟨A,h'⟩
 | .look v d'=>vQ o.op s.heap (pu P G o.op s.tmps) v (my s.tmps o.dst v λA=>K d' ⟨A,s.heap⟩)
 | .upd es c d'=>yF o.op s.heap (pu P G o.op s.tmps) es c λh'=>my s.tmps o.dst gh λA=>K d' ⟨A,h'⟩
 | .pk w d'=>ER w (pkR G w o.op s.tmps) λv=>my s.tmps o.dst v λA=>K d' ⟨A,s.heap⟩
 | .app d'=>FH s.heap (TP P G o.op s.tmps s.heap) λv h'=>my s.tmps o.dst v λA=>K d' ⟨A,h'⟩
 | .pure v d'=>mQ ((fc P G o.op).run s.tmps s.heap) λf args=>aP P G f args v/\my s.tmps o.dst v λA=>K d' ⟨A,s.heap⟩
 | .rix d'=>yO (ME P G o.op s.tmps s.heap) λv=>my s.tmps o.dst v λA=>K d' ⟨A,s.heap⟩
 | .apl d'=>zq s.heap (OQ P G o.op s.tmps s.heap) λv h'=>my s.tmps o.dst v λA=>K d' ⟨A,h'⟩
 | .slc d'=>yL (MZ P G o.op s.tmps s.heap) λv=>my s.tmps o.dst v λA=>K d' ⟨A,s.heap⟩
 | .slp ys d'=>yI (L9 P G o.op s.tmps) ys λv=>my s.tmps o.dst v λA=>K d' ⟨A,s.heap⟩
 | .rld x d'=>yN (MD P G o.op s.tmps s.heap) x λv=>my s.tmps o.dst v λA=>K d' ⟨A,s.heap⟩
 | .rst x xs d'=>yM s.heap (MA P G o.op s.tmps s.heap) x xs λh'=>my s.tmps o.dst gh λA=>K d' ⟨A,h'⟩
 | .eff _ r hp I d'=>mQ ((fc P G o.op).run s.tmps s.heap) λf args=>aO P G f args s.heap (λv h'=>∃y,I y/\v=r y/\h'=hp y)/\∀y,I y->my s.tmps o.dst (r y) λA=>K (d' y) ⟨A,hp y⟩
 |_=>False
def aaI(s:St)(t:Nat)(K0 K1:St->Prop):Prop:=match s.tmps.get t with
 |some (.ls xs)=>(xs=[]->my s.tmps (some t) .nils λA=>K0 ⟨A,s.heap⟩)/\my s.tmps (some t) (.ps xs false) λA=>K1 ⟨A,s.heap⟩
 |_=>False
def WPn(d:D)(s:St)(K:D->St->Prop):Prop:=match d with
 | .nz t a b=>aaI s t (K a) (K b)
 |d=>K d s
def Z0(ops:Array Oper):las->D->St->(D->St->Prop)->Prop
 |[],d,s,K=>K d s
 |o::r,d,s,K=>WPn d s λd s=>pre m d s λd s=>WPn d s λd s=>WPg (Cp s.tmps (eL ops o)) d
  (λd=>abN P G call o d s λd s=>Z0 ops r d s K)
  (λd=>my s.tmps o.dst gh λA=>Z0 ops r d ⟨A,s.heap⟩ K)
def Za(F:Fr)(h:AHeap)(d:DOper):CC:=
 match d.kind with
 |0=>qz F h d (cb F d.foot)
 |1=>pR F h d (cb F d.foot)
 |_=>NS call F h d
def Q1(h h':AHeap):Nat->Prop
 |0=>True
 |k+1=>h'.get k=h.get k/\Q1 h h' k
def Yx(b:Bool)(h h':AHeap)(n:Nat):Prop:=match b with|true=>Q1 h h' n|false=>True
def BC(masks:List (Nat×Nat))(k:Nat)(r:Rec)(rs:List Rec)(p:Prop):Prop:=match lm (fV masks k) r rs k with|true=>p|false=>False
def abO(o:Oper)(dp:DOper)(d:D)(F:Fr)(h:AHeap)(K:D->AV->AHeap->Rec->Prop):Prop:=
 match d with
 | .go n d'=>match Za call F h dp with
  |some (v,h',rec)=>K (nx n d') v h' rec
  |none=>False
 | .asl u d'=>match Za call F h dp with
  |some (v,h',rec)=>Le u v/\K d' u h' rec
  |none=>False
 | .rix d'=>match Nat.beq (da o.op) 0 with
  |true=>yO (ME P G o.op ⟨F.n,b7 F dp.look .nil⟩ ⟨1000000,bL h (cb F dp.foot) .nil⟩) λv=>K d' v h (Ev.rd (cb F dp.foot))
  |false=>False
 | .slc d'=>match Nat.beq (da o.op) 0 with
  |true=>yL (MZ P G o.op ⟨F.n,b7 F dp.look .nil⟩ ⟨1000000,bL h (cb F dp.foot) .nil⟩) λv=>K d' v h (Ev.rd (cb F dp.foot))
  |false=>False
 | .rld x d'=>match Nat.beq (da o.op) 0 with
  |true=>yN (MD P G o.op ⟨F.n,b7 F dp.look .nil⟩ ⟨1000000,bL h (cb F dp.foot) .nil⟩) x λv=>K d' v h (Ev.rd (cb F dp.foot))
  |false=>False
 | .rst x xs d'=>match Nat.beq (da o.op) 1 with
  |true=>iT F h.n dp.look=true/\pn h h.n (cb F dp.foot)=true/\yM ⟨h.n,bL h (cb F dp.foot) .nil⟩ (MA P G o.op ⟨F.n,b7 F dp.look .nil⟩ ⟨h.n,bL h (cb F dp.foot) .nil⟩) x xs λhw=>
   match lw h ⟨h.n,bL h (cb F dp.foot) .nil⟩ (cb F dp.foot) (some (.val gh hw))with
   |some (v,h',rec)=>K d' v h' rec
   |none=>False
  |false=>False
 | .upd es c d'=>match Nat.beq (da o.op) 1 with
  |true=>iT F h.n dp.look=true/\pn h h.n (cb F dp.foot)=true/\yF o.op ⟨h.n,bL h (cb F dp.foot) .nil⟩ (pu P G o.op ⟨F.n,b7 F dp.look .nil⟩) es c λhw=>
   match lw h ⟨h.n,bL h (cb F dp.foot) .nil⟩ (cb F dp.foot) (some (.val gh hw))with
   |some (v,h',rec)=>K d' v h' rec
   |none=>False
  |false=>False
 | .apx xs d'=>match Nat.beq (da o.op) 1 with
  |true=>iT F h.n dp.look=true/\pn h h.n (cb F dp.foot)=true/\JX ⟨h.n,bL h (cb F dp.foot) .nil⟩ (OQ P G o.op ⟨F.n,b7 F dp.look .nil⟩ ⟨h.n,bL h (cb F dp.foot) .nil⟩) xs λv hw=>
   match lw h ⟨h.n,bL h (cb F dp.foot) .nil⟩ (cb F dp.foot) (some (.val v hw))with
   |some (v,h',rec)=>K d' v h' rec
   |none=>False
  |false=>False
 | .app d'=>match Nat.beq (da o.op) 1 with
  |true=>iT F h.n dp.look=true/\pn h h.n (cb F dp.foot)=true/\vG ((fc P G o.op).run ⟨F.n,b7 F dp.look .nil⟩ ⟨h.n,bL h (cb F dp.foot) .nil⟩) λv hw=>
   match lw h ⟨h.n,bL h (cb F dp.foot) .nil⟩ (cb F dp.foot) (some (.val v hw))with
   |some (v,h',rec)=>K d' v h' rec
   |none=>False
  |false=>False
 | .opv v hw d'=>match Nat.beq (da o.op) 1 with
  |true=>iT F h.n dp.look=true/\pn h h.n (cb F dp.foot)=true/\(fc P G o.op).run ⟨F.n,b7 F dp.look .nil⟩ ⟨h.n,bL h (cb F dp.foot) .nil⟩=some (.val v hw)/\
   match lw h ⟨h.n,bL h (cb F dp.foot) .nil⟩ (cb F dp.foot) (some (.val v hw))with
   |some (v,h',rec)=>K d' v h' rec
   |none=>False
  |false=>False
 | .val v d'=>match Nat.beq (da o.op) 0 with
  |true=>(fc P G o.op).run ⟨F.n,b7 F dp.look .nil⟩ ⟨1000000,bL h (cb F dp.foot) .nil⟩=some (.val v ⟨1000000,bL h (cb F dp.foot) .nil⟩)/\K d' v h (Ev.rd (cb F dp.foot))
  |false=>False
 | .elem x d'=>match Nat.beq (da o.op) 0 with
  |true=>vc (Ii P G o.op ⟨F.n,b7 F dp.look .nil⟩) x (K d' (.pptr [x] 0 0) h (Ev.rd (cb F dp.foot)))
  |false=>False
 | .efx same v h' d'=>mQ ((fc P G o.op).run ⟨F.n,b7 F dp.look .nil⟩ h) λf args=>match iT F h.n dp.look&&Nat.ble h.n h'.n&&(same||oX h h' h.n)with
  |true=>nI h h.n h.n/\Yx same h h' h.n/\aO P G f args h (λv1 h1=>v1=v/\h1=h')/\K d' v h' ⟨⟨true,[],h.n,h.n⟩,⟨ak same,[],h.n,h'.n⟩⟩
  |false=>False
 | .efd v h' d'=>mQ ((fc P G o.op).run ⟨F.n,b7 F dp.look .nil⟩ h) λf args=>match iT F h.n dp.look&&fH h h.n h.n&&Nat.ble h.n h'.n&&oX h h' h.n with
  |true=>aO P G f args h (λv1 h1=>v1=v/\h1=h')/\K d' v h' ⟨⟨true,[],h.n,h.n⟩,⟨true,[],h.n,h'.n⟩⟩
  |false=>False
 | .slp ys d'=>match Nat.beq (da o.op) 0 with
  |true=>yI (L9 P G o.op ⟨F.n,b7 F dp.look .nil⟩) ys λv=>K d' v h (Ev.rd (cb F dp.foot))
  |false=>False
 | .look v d'=>match Nat.beq (da o.op) 0 with
  |true=>vQ o.op ⟨1000000,bL h (cb F dp.foot) .nil⟩ (pu P G o.op ⟨F.n,b7 F dp.look .nil⟩) v (K d' v h (Ev.rd (cb F dp.foot)))
  |false=>False
 | .pk w d'=>match Nat.beq (da o.op) 0 with
  |true=>ER w (pkR G w o.op ⟨F.n,b7 F dp.look .nil⟩) λv=>K d' v h (Ev.rd (cb F dp.foot))
  |false=>False
 | .pure v d'=>mQ ((fc P G o.op).run ⟨F.n,b7 F dp.look .nil⟩ h) λf args=>match Nat.beq (az args) 0&&Nat.beq v.top 0 with
  |true=>aP P G f args v/\K d' v h (Ev.rd [])
  |false=>False
 | .fsl _ _ _ ys d'=>vG ((fc P G o.op).run ⟨F.n,b7 F dp.look .nil⟩ AHeap.none) λv h1=>match iT F 0 dp.look with
  |true=>Le (.ls ys) (gJ 0 0 v h1).1/\K d' (.ls ys) h (Ev.rd [])
  |false=>False
 |_=>False
def Z1(ops:Array Oper)(masks:List (Nat×Nat)):las->Nat->D->Fr->AHeap->List Rec->(D->St->Prop)->Prop
 |[],_,d,F,h,_,K=>match Nat.ble h.n 1000000 with|true=>K d ⟨F,h⟩|false=>False
 |o::r,k,d,F,h,rs,K=>WPg (Cp ⟨F.n,b7 F (o.looksAt ops) .nil⟩ (eL ops o)) d
  (λd=>abO P G call o (dop P G ops o) d F h λd v h' rec=>BC masks k rec rs (my F o.dst v λF'=>Z1 ops masks r (k+1) d F' h' (rec::rs) K))
  (λd=>BC masks k (Ev.rd []) rs (my F o.dst gh λF'=>Z1 ops masks r (k+1) d F' h (Ev.rd []::rs) K))
def WPc(v:lae)(d:D)(a b:D->Prop):Prop:=
 match v with
 |some (.bool t)=>match d with
  | .go n d'=>match t with|true=>a (nx n d')|false=>b (nx n d')
  | .tt d'=>t=true/\a d'
  | .ff d'=>t=false/\b d'
  | .br d1 d2=>(t=true->a d1)/\(t=false->b d2)
  |_=>False
 |_=>False
structure WC where
 run:D->St->(AExit->D->St->Prop)->Prop
def Yz(b:WC)(K:AExit->D->St->Prop)(e:AExit)(d:D)(s:St):Prop:=match e with| .normal=>b.run d s K|e=>K e d s
def XF(n:Nat)(ts:laf){X:Type}(S:X->laa×lai)(I:X->Prop)(K:AExit->D->St->Prop)(e:AExit)(d:D)(s:St):Prop:=match e with
 | .normal=>pre m d s λ_ s=>match Nat.beq s.tmps.n n,pF s.tmps ts,eF s.heap s.heap.n 0 with
  |true,some vs,some os=>∃y,I y/\(vs,os)=S y
  |_,_,_=>False
 |e=>K e d s
def ab5(a b:WC)(d:D)(s:St)(K:AExit->D->St->Prop):Prop:=match d with
 | .join _ ts S I d1 d2=>a.run d1 s (XF m s.tmps.n ts S I K)/\∀x,I x->b.run (d2 x) (UA s.tmps.n ts (S x)) K
 | .inn d=>a.run d s (Yz b K)
 |d=>a.run d s (Yz b K)
def aaC(id:Nat)(K:AExit->D->St->Prop)(e:AExit)(d:D)(s:St):Prop:=match e with
 | .exit k=>match Nat.beq k id with|true=>K .normal d s|false=>K (.exit k) d s
 |e=>K e d s
def AY(n:Nat)(ts:laf){X:Type}(S:X->laa×lai)(I:X->Prop)(ms:X->Nat)(x:X)(K:AExit->D->St->Prop)(e:AExit)(d:D)(s:St):Prop:=match e with
 | .normal=>pre m d s λ_ s=>match Nat.beq s.tmps.n n,pF s.tmps ts,eF s.heap s.heap.n 0 with
  |true,some vs,some os=>Nx I ms S x (vs,os)
  |_,_,_=>False
 |e=>K e d s
def unK(b:WC)(K:AExit->D->St->Prop):Nat->AExit->D->St->Prop
 |0,e,d,s=>match e with| .normal=>False|e=>K e d s
 |n+1,e,d,s=>match e with| .normal=>b.run d s (unK b K n)|e=>K e d s
def XD(b:WC)(d:D)(s:St)(K:AExit->D->St->Prop):Prop:=match d with
 | .loop _ ts S I ms x0 db=>match pF s.tmps ts,eF s.heap s.heap.n 0 with
  |some vs,some os=>(vs,os)=S x0/\I x0/\∀x,I x->b.run (db x) (UA s.tmps.n ts (S x)) (AY m s.tmps.n ts S I ms x K)
  |_,_=>False
 | .loop2 _ _ ts S S' I I' ms ms' x0 db db'=>match pF s.tmps ts,eF s.heap s.heap.n 0 with
  |some vs,some os=>(vs,os)=Sum.elim S S' x0/\Sum.elim I I' x0/\
   (∀x,I x->b.run (db x) (UA s.tmps.n ts (S x)) (AY m s.tmps.n ts (Sum.elim S S') (Sum.elim I I') (Sum.elim ms ms') (.inl x) K))/\
   (∀x,I' x->b.run (db' x) (UA s.tmps.n ts (S' x)) (AY m s.tmps.n ts (Sum.elim S S') (Sum.elim I I') (Sum.elim ms ms') (.inr x) K))
  |_,_=>False
 | .un n d'=>b.run d' s (unK b K n)
 |_=>False
def WP:Code->WC
 | .skip | .label _=>⟨λd s K=>K .normal d s⟩
 | .region _ ops draw=>match draw with
  |false=>⟨λd s K=>Z0 P G call m ops ops.toList d s (K .normal)⟩
  |true=>⟨λd s K=>pre m d s λd s=>match Fw P G ops with
   |true=>Z1 P G call ops (eb ops.toList 0 []) ops.toList 0 d s.tmps s.heap [] (K .normal)
   |false=>False⟩
 | .seq a b=>⟨λd s K=>ab5 m (WP a) (WP b) d s K⟩
 | .cond c a b=>⟨λd s K=>pre m d s λd s=>WPc ((cA G c).run s.tmps) d (λd=>(WP a).run d s K) (λd=>(WP b).run d s K)⟩
 | .block id b=>⟨λd s K=>(WP b).run d s (aaC id K)⟩
 | .loop b=>⟨λd s K=>pre m d s λd s=>XD m (WP b) d s K⟩
 | .exit id=>⟨λd s K=>K (.exit id) d s⟩
 | .scope b=>⟨λd s K=>(WP b).run d s K⟩
 | .ret=>⟨λd s K=>K .ret d s⟩
 |_=>⟨λ_ _ _=>False⟩
end
def Fv(P:Program)(m:Nat)(res:List ResultVar)(Ψ:AV->AHeap->Prop)(e:AExit)(d:D)(s:St):Prop:=match e with
 | .exit _=>False
 |_=>pre m d s λ_ s=>match fw (fh P res s.tmps s.heap)with
  |some u=>Ψ u s.heap
  |none=>False
end
theorem Nx.mk{X:Type}{I:X->Prop}{m:X->Nat}{S:X->laa×lai}{x:X}(y:X)(h1:I y)(h2:m y<m x):Nx I m S x (S y):=⟨y,h1,h2,rfl⟩
section
variable{P:Program}{G:fz}{call:cn}{m:Nat}{ops:Array Oper}{l:las}{o:Oper}{s s':St}{h h':AHeap}{v:AV}{A A' F:Fr}{f:FuncId}{args:laa}{c:Code}{n t:Nat}
theorem Sl{g:Option (lau×Bool)}(h:Cp A g=.yes):eO A g=some true:=by
 unfold Cp at h;split at h
 ·rfl
 all_goals grind
theorem WZ{g:Option (lau×Bool)}(h:Cp A g=.no):eO A g=some false:=by
 unfold Cp at h;split at h
 ·grind
 ·grind[eO]
 ·simp[eO]
theorem Sm{b want:Bool}{g:Option (lau×Bool)}(h:Cp A g=.sym b want):eO A g=some (b==want):=by
 unfold Cp at h;split at h
 ·grind
 ·split at h
  ·rename_i d w b' q;cases h
   simp only[eO,q];cases b<;>cases want<;>rfl
  all_goals simp_all
 grind
theorem G7{want:Bool}{a b:Prop}{Q:Prop}(h:uI want a b)(ha:want=true->a->Q)(hb:want=false->b->Q):Q:=by
 cases want
 ·exact hb rfl h
 ·exact ha rfl h
theorem UJ{g:Option (lau×Bool)}{d:D}{y n:D->Prop}{Q:Prop}(h:WPg (Cp A g) d y n)(hy:eO A g=some true->∀d,y d->Q)(hn:eO A g=some false->∀d,n d->Q):Q:=by
 cases hg:Cp A g with
 |yes=>rw[hg]at h;exact hy (Sl hg) d h
 |no=>rw[hg]at h;exact hn (WZ hg) d h
 |bad=>rw[hg]at h;exact h.elim
 | sym b want=>
  rw[hg]at h;have e:=Sm hg;have t1:b=true->∀d,uI want (y d) (n d)->Q:=by
   intro hb d hp;subst hb;refine G7 hp (λhw k=>hy (by simp_all) d k) (λhw k=>hn (by simp_all) d k)
  have t2:b=false->∀d,uI want (n d) (y d)->Q:=by
   intro hb d hp;subst hb;refine G7 hp (λhw k=>hn (by simp_all) d k) (λhw k=>hy (by simp_all) d k)
  cases d<;>simp only[WPg]at h
  case tt d'=>grind
  case ff d'=>grind
  case br d1 d2=>
   cases hb:b with
   |true=>grind
   |false=>grind
  all_goals
   cases hb:b with
   |true=>rw[hb]at h;exact t1 hb _ h
   |false=>rw[hb]at h;exact t2 hb _ h
theorem bP{dst:lau}{K:Fr->Prop}(h:my A dst v K):∃A',jU A dst v=some A'/\K A':=by grind[my]
theorem kj{r:lay}{K:FuncId->laa->Prop}(h:mQ r K):∃f args,r=some (.call f args)/\K f args:=by
 unfold mQ at h;grind
theorem jq{n:Nat}:∀{k:Nat},nI h n k->fH h n k=true
 |0,_=>rfl
 |k+1,hc=>by
  simp only[nI]at hc;simp only[fH];cases hg:h.get k with
  |none=>rw[hg]at hc;exact jq hc
  |some o=>rw[hg]at hc;simp only[hc.1];exact jq hc.2
theorem UT{ids pl:laf}{is:laf}{K:lai->Prop}(e:Q6 h ids pl is K):∃os,K os/\os.length=is.length/\∀(j:Nat)(o':AObj),os[j]?=some o'->∃o,h.get (gV is j)=some o/\kn (gV ids) o'=o/\o'.top<=ids.length:=by
 induction is generalizing K with
 |nil=>exact⟨[],e,rfl,λj o' h=>by simp_all⟩
 | cons x r ih=>
  simp only[Q6]at e;split at e
  ·rename_i o ho;split at e
   ·obtain⟨h0,e⟩:=e;obtain⟨os,k1,k2,k3⟩:=ih e;refine⟨o::os,k1,by simp_all,λj o' hj=>?_⟩;cases j with
    |zero=>simp at hj;subst hj;exact⟨o,ho,JR _ o h0,by omega⟩
    |succ j=>exact k3 j o' (by simp_all)
   ·split at e
    ·rename_i hw;obtain⟨os,k1,k2,k3⟩:=ih e;refine⟨_::os,k1,by simp_all,λj o' hj=>?_⟩;cases j with
     |zero=>simp at hj;subst hj;exact⟨o,ho,OA o hw⟩
     |succ j=>exact k3 j o' (by simp_all)
    simp_all
  simp_all
theorem DW:∀{l:laa},EI l=true->∀y,y∈l->dq y=true
 |x::r,h,y,hy=>by
  simp only[EI,ba]at h;rcases dO.1 hy with rfl|hy
  ·simp_all
  ·exact DW h.2 y hy
theorem Jj{α:Type}(d:Nat):∀(t:Tr α)(n:Nat)(x:α)(m:Nat)(y:α),n+1<2^d->m≠n->t.get m=some y->(Tr.set d t n x).get m=some y:=by
 induction d with
 |zero=>omega
 | succ d ih=>
  intro t n x m y hn hne h;have hn2:∀k,n=k+1->k/2+1<2^d:=by omega
  cases t with
  |nil=>grind[f8]
  | node l v r=>
   cases n with
   |zero=>
    rw[pW];cases m with
    |zero=>omega
    |succ m=>grind[fq]
   | succ n=>
    have hb:=hn2 n rfl;rw[pJ];cases m with
    |zero=>grind[mU]
    |succ m=>
     rw[fq]at h;by_cases hn:n%2=0
     ·rw[if_pos hn,fq];grind
     ·rw[if_neg hn,fq];grind
theorem pY{h:AHeap}{o o':AObj}{id k:Nat}(hn:id<1000000)(hne:k≠id)(hg:h.get k=some o'):(h.put id o).get k=some o':=by
 rw[AHeap.get_some]at hg ⊢;exact⟨hg.1,hg.2.1,Jj 20 h.t id o k o' (by omega) hne hg.2.2⟩
theorem cV.obw{b:lan}{i sz ep:Nat}{op:Bool}{v u:AV}(hg:s.heap.get i=some (.row sz op ep [v]))(hl:u.cells.length=v.cells.length)(hsc:∀y,y∈u.cells->dq y=true)(hle:∀(j:Nat)(y:AV),u.cells[j]?=some y->∃x:AV,v.cells[j]?=some x/\Le y x):
  cV G b s ⟨s.tmps,s.heap.put i (.row sz op ep [u])⟩:=by
 have hi:=(AHeap.get_some.1 hg).2.1;intro N h0 pl0 M0 w0 a w hb ⟨⟨pl,M,g1,g2,g3,g4,g5⟩,k1,k2⟩;refine⟨⟨pl,M,g1,⟨g2.dom,λid p o hp hgo=>?_,g2.blk,g2.inj,g2.imm,g2.sep⟩,g3,⟨g4.ext,g4.new,g4.mem,g4.size,g4.kept,g4.blks,λid p hp hgo=>?_,g4.stay,g4.memNew,g4.os,g4.tape,g4.out,g4.drawn⟩,g5⟩,k1,k2⟩
 ·rcases AHeap.get_put hi hgo with⟨rfl,rfl⟩|⟨_,h2⟩
  ·have ho:=g2.obj _ p _ hp hg;generalize w.heap[p.blk]?=ob at ho
   match ob,ho with
   | some (.cells c t fr),ho=>
    obtain⟨e1,e2,e3,e4,e5,e6,e7,e8⟩:=ho;refine⟨e1,e2,e3,e4,e5,e6,e7,e8.fit,λx hx=>?_,λj x q y hj hq=>?_⟩
    ·simp only[jr]at hx;subst hx;exact⟨hl.trans (e8.elem v (dr ..)).1,hsc⟩
    ·cases j with
     |zero=>
      simp only[CH,zc]at hj;subst hj;obtain⟨z,z1,z2⟩:=hle q y hq;exact z2 _ _ _ (e8.cell 0 v q z rfl z1)
     |succ j=>simp_all
  ·exact g2.obj id p o hp h2
 ·have:=g4.live id p hp hgo;cases hcp:(s.heap.put i (.row sz op ep [u])).get id with
  |none=>rfl
  |some o=>
   rcases AHeap.get_put hi hcp with⟨rfl,rfl⟩|⟨_,h2⟩
   all_goals simp_all
theorem Jx(hG:jK G){m k i:Nat}{o0 o':AObj}{ts:laf}{L:List (Nat×AV)}{os:lai}(hm:m<=k)(hk:k<=s.heap.n)(hgi:s.heap.get i=some o0)
  (hO:∀(pl:Pl)(M:dN)(w:World)(p:Place),cS pl M s.heap w->pl i=some p->bm (de pl k) (l8 pl M w k) p o' w.heap[p.blk]?)
  (hc:∀id o,id<k->(s.heap.put i .dead).get id=some o->o.top<=k)(e:Ev.frzL s.tmps s.heap k ts=some L)(ho:eF (s.heap.put i o') k 0=some os):cV G (some m) s ⟨eh s.tmps.n L,aw os⟩:=by
 have hi:=(AHeap.get_some.1 hgi).2.1;have e0:∀t u,(t,u)∈L->∃v,s.tmps.get t=some v/\Plain s.heap k v u:=λt u h=>by grind[ra,Plain.frz]
 have key:cV G (some m) s ⟨eh s.tmps.n L,(s.heap.put i o').cut k⟩:=by
  intro N h0 pl0 M0 w0 a w hb ⟨⟨pl,M,g1,g2,g3,g4,g5⟩,k1,k2⟩;obtain⟨b1,b2⟩:=hb m rfl;have hlow:∀id p,pl0 id=some p->id<k:=λid p hp=>CI (b2 id p hp) hm
  have h1:cS pl M (s.heap.put i .dead) w:=⟨g2.dom,λid2 p o hp hgo=>by
   rcases AHeap.get_put hi hgo with⟨rfl,rfl⟩|⟨_,h2⟩
   ·simp[bm]
   ·exact g2.obj id2 p o hp h2,g2.blk,g2.inj,g2.imm,g2.sep⟩
  have h2:cS (de pl k) (l8 pl M w k) ((s.heap.put i .dead).cut k) w:=h1.dropped (n:=k) hk hc;have h3:cS (de pl k) (l8 pl M w k) ((s.heap.put i o').cut k) w:=⟨h2.dom,λid2 p o hp hgo2=>by
   obtain⟨z1,z2⟩:=iE (h:=s.heap.put i o') hk hgo2;obtain⟨hp1,hp2⟩:=aR.1 hp;rcases AHeap.get_put hi z2 with⟨rfl,rfl⟩|⟨z3,z4⟩
   ·simp_all
   ·have hcut:((s.heap.put i .dead).cut k).get id2=some o:=by
     have q3:=AHeap.get_some.1 (pY (h:=s.heap) (o:=.dead) hi z3 z4);exact AHeap.get_some.2 ⟨z1,q3.2.1,q3.2.2⟩
    exact h2.obj id2 p o hp hcut,h2.blk,h2.inj,h2.imm,h2.sep⟩
  refine⟨⟨de pl k,l8 pl M w k,(g1.none hG).mono (nS.refl _) (fO k),h3,⟨g3.size,g3.defers,λt u ht=>?_⟩,⟨?_,?_,?_,g4.size,g4.kept,?_,?_,?_,?_,g4.os,g4.tape,g4.out,g4.drawn⟩,by show h0.n<=k;omega⟩,k1,k2⟩
  ·obtain⟨v,q1,q2⟩:=e0 t u (uT ht);obtain⟨q3,q4⟩:=g3.at_ t v q1;exact⟨q3,q2 _ _ _ _ _ g2 (fO k) (λid p sz op ep xs c t fr z1 z2 _ z4=>o9 g2 z1 z2 z4) q4⟩
  ·intro id p hp;obtain⟨p',q1,q2⟩:=g4.ext id p hp;exact⟨p',aR.2 ⟨hlow id p hp,q1⟩,q2⟩
  ·intro id hid hp;have:=g4.new id hid hp;cases hcp:de pl k id with
   |none=>rfl
   |some q=>rw[(aR.1 hcp).2]at this;omega
  ·exact λb c hb=>fO k b c (g4.mem b c hb)
  ·exact λid p' hp'=>g4.blks id p' (aR.1 hp').2
  ·intro id2 p hp hg;have:=g4.live id2 p hp hg;cases hcp:((s.heap.put i o').cut k).get id2 with
   |none=>rfl
   |some o=>
    rcases AHeap.get_put hi (iE (h:=s.heap.put i o') hk hcp).2 with⟨rfl,rfl⟩|⟨_,z⟩
    all_goals simp_all
  ·exact λid p hp hg=>aR.2 ⟨hlow id p hp,g4.stay id p hp hg⟩
  ·intro b c hb;rcases jZ hb with q|⟨⟨id,p,q1,q2,q3⟩,_⟩
   ·exact g4.memNew b c q
   ·rcases g4.blks id p q2 with⟨p0,q4,_⟩|q4
    all_goals grind
 refine cV.trans key (cV.sub ⟨rfl,λ_ _ h=>h,?_,λid o h=>?_⟩)
 ·obtain⟨q1,q2⟩:=ez k 0 os ho;show k<=(aw os).n
  grind[aw]
 ·obtain⟨q1,q2⟩:=ez k 0 os ho;have hx:=oQ h;have h4:=q2 id o hx;rw[fx]at h4;have hlt:id<k:=by grind
  have h5:=AHeap.get_some.1 h4;exact AHeap.get_some.2 ⟨hlt,h5.2.1,h5.2.2⟩
theorem cV.fzo(hG:jK G){m k i sz ep' id ep off len sz2:Nat}{cap:lan}{op op2:Bool}{xs ys:laa}{ts:laf}{L:List (Nat×AV)}{os:lai}(hm:m<=k)(hk:k<=s.heap.n)
  (hgi:s.heap.get i=some (.row sz op ep' [.slice id ep off len cap]))(hid:k<=id)(hgo:s.heap.get id=some (.row sz2 op2 ep xs))(hy:(xs.drop off).take len=ys)(ht:az ys=0)
  (hc:fH (s.heap.put i .dead) k k=true)(e:Ev.frzL s.tmps s.heap k ts=some L)(ho:eF (s.heap.put i (.row sz op ep' [.ls ys])) k 0=some os):cV G (some m) s ⟨eh s.tmps.n L,aw os⟩:=by
 refine Jx hG hm hk hgi (λpl M w p g2 hp2=>?_) (λid o q1 q2=>gm k hc id o q1 q2) e ho;have hob:=g2.obj _ p _ hp2 hgi;generalize w.heap[p.blk]?=ob at hob
 match ob,hob with
 | some (.cells c t fr),hob=>
  obtain⟨e1,e2,e3,e4,e5,e6,e7,e8⟩:=hob;refine⟨e1,e2,e3,e4,e5,e6,e7,e8.fit,λx hx=>?_,λj x q y hj hq=>?_⟩
  ·simp only[jr]at hx;subst hx;exact⟨(e8.elem (.slice id ep off len cap) (dr ..)).1,λy hy=>by simp only[AV.cells,jr]at hy;subst hy;rfl⟩
  ·cases j with
   | zero=>
    simp only[CH,zc]at hj;subst hj;cases q with
    |zero=>
     simp only[AV.cells,CH,zc]at hq;subst hq;have hv:=e8.cell 0 _ 0 _ rfl rfl;exact .lsp (Plain.slice hgo hid hy ht pl M (l8 pl M w k) w _ g2 (fO k) (λid p sz op ep xs c t fr z1 z2 _ z4=>o9 g2 z1 z2 z4) hv).loose ht
    |succ q=>grind[AV.cells]
   |succ j=>simp_all
theorem cV.fza(hG:jK G){m k i j sz ep':Nat}{op:Bool}{cs ys:laa}{ts:laf}{L:List (Nat×AV)}{os:lai}(hm:m<=k)(hk:k<=s.heap.n)
  (hgi:s.heap.get i=some (.row sz op ep' [.agg cs]))(v:AV)(hj:jI cs j=some v)(hvs:dq v=true)(hpl:∀(pl:Pl)(M Md:dN)(w:World)(x:Value),cS pl M s.heap w->qo M Md->(∀id p sz op ep xs c t fr,k<=id->pl id=some p->s.heap.get id=some (.row sz op ep xs)->w.heap[p.blk]?=some (.cells c t fr)->Md p.blk=some c)->VRel pl M v x->VRel (de pl k) Md (.ls ys) x)
  (hik:i<k)(hc:fH (s.heap.put i (.row sz op ep' [.agg (cs.set j (.ls ys))])) k k=true)(e:Ev.frzL s.tmps s.heap k ts=some L)(ho:eF (s.heap.put i (.row sz op ep' [.agg (cs.set j (.ls ys))])) k 0=some os):cV G (some m) s ⟨eh s.tmps.n L,aw os⟩:=by
 have hi:=(AHeap.get_some.1 hgi).2.1;have hcl:=λid o q1 q2=>gm k hc id o q1 q2
 have htop:az (cs.set j (.ls ys))<=k:=by
  obtain⟨q1,q2⟩:=ez k 0 os ho;have hx:os[i]?=some os[i]:=lE (by omega);have h4:=q2 i _ hx;rw[fx]at h4;rcases AHeap.get_put hi h4 with⟨_,h5⟩|⟨h5,_⟩
  ·grind[AObj.top,az,AV.top,rU]
  omega
 refine Jx hG hm hk hgi (λpl M w p g2 hp2=>?_) (λid o q1 q2=>?_) e ho
 ·have hob:=g2.obj _ p _ hp2 hgi;generalize w.heap[p.blk]?=ob at hob
  match ob,hob with
  | some (.cells c t fr),hob=>
   obtain⟨e1,e2,e3,e4,e5,e6,e7,e8⟩:=hob;have hel:=e8.elem (.agg cs) (dr ..);refine⟨e1,e2,e3,e4,e5,e6,e7,e8.fit,λx hx=>?_,λn x q y hn hq=>?_⟩
   ·simp only[jr]at hx;subst hx;refine⟨by grind[AV.cells],λy hy=>?_⟩;simp only[AV.cells]at hy;rcases List.mem_or_eq_of_mem_set hy with h|h
    ·exact hel.2 y h
    ·subst h;rfl
   ·cases n with
    | zero=>
     simp only[CH,zc]at hn;subst hn;simp only[AV.cells]at hq;rw[CO]at hq;split at hq
     ·rename_i hqj;subst hqj;split at hq
      ·cases hq
       have hv:=e8.cell 0 _ j _ rfl (by rw[po]at hj;exact hj);grind[fO,o9]
      grind
     ·rename_i hne;have hv:=e8.cell 0 _ q y rfl hq;refine hv.agree (n:=k) (dS.1 htop y (bC (i:=q) ?_)) eV (fO k);simp_all
    |succ n=>simp_all
 ·rcases AHeap.get_put hi q2 with⟨_,rfl⟩|⟨h1,h2⟩
  ·exact b6 _
  grind[pY]
theorem fX{dst:lau}(h:jU A dst v=some A'):A'.n=A.n:=by
 cases dst with
 |none=>grind[jU]
 |some t=>
  have hp':A.put t v=some A':=h;grind[Fr.put]
theorem tc(hG:jK G){Q:Prop}:∀{d:D}{s:St}{K:D->St->Prop},s.tmps.n<=60000->pre m d s K->(∀d' s',s'.tmps.n=s.tmps.n->cV G (some m) s s'->K d' s'->Q)->Q:=by
 intro d;induction d with
 | le t u d ih=>
  intro s K hn h k;simp only[pre]at h;split at h
  ·rename_i v hv;obtain⟨h1,h2⟩:=h;split at h2
   ·rename_i A' hp;have hn':A'.n=s.tmps.n:=by
     have hp':s.tmps.put t u=some A':=hp;grind[Fr.put]
    refine ih (by simp_all) h2 λd' s' e1 e2 e3=>k d' s' (by simp_all) ?_ e3
    exact cV.trans (cV.put (A:=s.tmps) (h:=s.heap) hn hv h1 hp) e2
   simp_all
  simp_all
 | frz k0 ts d ih=>
  intro s K hn h k;simp only[pre]at h;split at h
  ·rename_i hck;simp only[bd,ba,decide_eq_true_eq]at hck;obtain⟨c1,c2⟩:=hck;obtain⟨c3,h⟩:=h;have c3:=jq c3;split at h
   ·rename_i L hL;split at h
    ·rename_i os ho;exact ih (s:=⟨eh s.tmps.n L,aw os⟩) hn h λd' s' e1 e2 e3=>k d' s' e1 (cV.trans (cV.frzL hG c1 c2 c3 hL ho) e2) e3
    simp_all
   simp_all
  simp_all
 |psh o d ih=>grind[pre,cV.trans,cV.psh]
 | frl k0 ts ls d ih=>
  intro s K hn h k;simp only[pre]at h;split at h
  ·rename_i hck;simp only[bd,ba,decide_eq_true_eq]at hck;obtain⟨c1,c2⟩:=hck;obtain⟨c3,c4,h⟩:=h;split at h
   ·rename_i L K' os hL hK ho;exact ih (s:=⟨eh s.tmps.n (K'++L),aw os⟩) hn h λd' s' e1 e2 e3=>k d' s' e1 (cV.trans (cV.frl hG c1 c2 (jq c3) hL hK c4 ho) e2) e3
   simp_all
  simp_all
 | fsl k0 ts t ys d ih=>
  intro s K hn h k;simp only[pre]at h;split at h
  ·rename_i hck;simp only[bd,ba,decide_eq_true_eq]at hck;obtain⟨c1,c2⟩:=hck;obtain⟨c3,h⟩:=h;have c3:=jq c3;split at h
   ·rename_i L id ep off len cap hL ht;split at h
    ·rename_i sz op ep' xs os hid hg ho;simp only[bd,decide_eq_true_eq]at hid;obtain⟨⟨rfl,q2,q3⟩,h⟩:=h;exact ih (s:=⟨eh s.tmps.n ((t,.ps ys (oI cap (some len)))::L),aw os⟩) hn h λd' s' e1 e2 e3=>k d' s' e1 (cV.trans (QJ hG c1 c2 c3 hL ho ht hid hg q2 q3) e2) e3
    simp_all
   simp_all
  simp_all
 | ren ids pl ts d ih=>
  intro s K hn h k;simp only[pre]at h;split at h
  ·rename_i hck;simp only[ba]at hck;split at h
   ·rename_i L hL;obtain⟨os,h,o1,o2⟩:=UT (is:=ids) h;exact ih (s:=⟨eh s.tmps.n L,aw os⟩) hn h λd' s' e1 e2 e3=>k d' s' e1 (cV.trans (QW hG hck.1 hck.2 hL o1 o2) e2) e3
   simp_all
  simp_all
 | obj i o d ih=>
  intro s K hn h k;simp only[pre]at h;split at h
  ·rename_i o' ho;obtain⟨rfl,h⟩:=h;have hS:SubSt ⟨s.tmps,s.heap.put i o'⟩ s:=by
    refine⟨rfl,λ_ _ h=>h,ar _,λid o hh=>?_⟩;rcases AHeap.get_put (AHeap.get_some.1 ho).2.1 hh with⟨rfl,rfl⟩|⟨_,h2⟩
    all_goals omega
   exact ih (s:=⟨s.tmps,s.heap.put i o'⟩) hn h λd' s' e1 e2 e3=>k d' s' e1 (cV.trans (cV.sub hS) e2) e3
  simp_all
 | obw i u d ih=>
  intro s K hn h k;simp only[pre]at h;split at h
  ·rename_i sz op ep v hg;split at h
   ·rename_i hck;simp only[ba,aD,decide_eq_true_eq]at hck;exact ih (s:=⟨s.tmps,s.heap.put i (.row sz op ep [u])⟩) hn h.2 λd' s' e1 e2 e3=>k d' s' e1 (cV.trans (cV.obw hg hck.1.1 (DW hck.2) h.1) e2) e3
   simp_all
  simp_all
 | fzo i k0 ts ys d ih=>
  intro s K hn h k;simp only[pre]at h;split at h
  ·rename_i hck;simp only[bd,dG,ba,decide_eq_true_eq]at hck;split at h
   ·rename_i sz op ep' id ep off len cap hg;split at h
    ·rename_i sz2 op2 ep2 xs L os hid hgo hL ho;simp only[bd,decide_eq_true_eq]at hid;obtain⟨c3,⟨rfl,q2,q3⟩,h⟩:=h;exact ih (s:=⟨eh s.tmps.n L,aw os⟩) hn h λd' s' e1 e2 e3=>k d' s' e1 (cV.trans (cV.fzo hG hck.1.1 hck.1.2 hg hid hgo q2 q3 (jq c3) hL ho) e2) e3
    simp_all
   simp_all
  simp_all
 | fza i j k0 ts ys d ih=>
  intro s K hn h k;simp only[pre]at h;split at h
  ·rename_i hck;simp only[bd,dG,ba,decide_eq_true_eq]at hck;split at h
   ·rename_i sz op ep' cs hg;split at h
    ·rename_i id ep off len cap hj;split at h
     ·rename_i sz2 op2 ep2 xs L os hid hgo hL ho;simp only[bd,decide_eq_true_eq]at hid;obtain⟨c3,⟨rfl,q2,q3⟩,h⟩:=h;exact ih (s:=⟨eh s.tmps.n L,aw os⟩) hn h λd' s' e1 e2 e3=>k d' s' e1 (cV.trans (cV.fza hG hck.1.1 hck.1.2 hg _ hj rfl (λpl M Md w x a1 a2 a3 a4=>.lsp (Plain.slice hgo hid q2 q3 pl M Md w x a1 a2 a3 a4).loose q3) hck.2 (jq c3) hL ho) e2) e3
     simp_all
    ·rename_i id ep len cap hj;split at h
     ·rename_i sz2 op2 ep2 xs L os hid hgo hL ho;simp only[bd,decide_eq_true_eq]at hid;obtain⟨c3,⟨rfl,q2,q3⟩,h⟩:=h;exact ih (s:=⟨eh s.tmps.n L,aw os⟩) hn h λd' s' e1 e2 e3=>k d' s' e1 (cV.trans (cV.fza hG hck.1.1 hck.1.2 hg _ hj rfl (λpl M Md w x a1 a2 a3 a4=>Plain.sl0 hgo hid q2 q3 pl M Md w x a1 a2 a3 a4) hck.2 (jq c3) hL ho) e2) e3
     simp_all
    simp_all
   simp_all
  simp_all
 |cs T l a b iha ihb=>
  intro s K hn h k;simp only[pre]at h;cases hl:l with
  |nil=>grind
  |cons w r=>grind
 |bs t a b iha ihb=>
  intro s K hn h k;simp only[pre]at h;cases ht:t with
  |true=>grind
  |false=>grind
 |ex T p d ih=>grind[pre]
 |abs=>intro s K hn h k;exact h.elim
 |fin|go _ _ _|val _ _ _|opv _ _ _ _|elem _ _ _|chr _ _ _|app _ _|pk _ _ _|efd _ _ _|efx _ _ _ _|look _ _ _|upd _ _ _ _|pure _ _ _|asl _ _ _|rix _ _|rld _ _ _|rst _ _ _ _|eff _ _ _ _ _ _|nz _ _ _ _ _|slc _ _|slp _ _ _|apx _ _ _|apl _ _|tt _ _|ff _ _|br _ _ _ _|un _ _ _|inn _ _|join _ _ _ _ _ _ _ _|loop _ _ _ _ _ _ _ _|loop2 _ _ _ _ _ _ _ _ _ _ _ _ _ _=>
  intro s K hn h k;exact k _ s rfl (cV.refl s) h
theorem aA.bounded{b:lan}{Φ:AExit->St->Prop}(h:s.tmps.n<=60000->aA P G b c s Φ):aA P G b c s Φ:=λN h0 pl0 M0 w0 a w Q hb hs hQ=>h (by grind[cases SNow]) N h0 pl0 M0 w0 a w Q hb hs hQ
theorem cE.bounded{b:lan}{Φ:St->Prop}(h:s.tmps.n<=60000->cE P G b ops l s Φ):cE P G b ops l s Φ:=λi N h0 pl0 M0 w0 a w Q hb hl hs hQ=>h (by grind[cases SNow]) i N h0 pl0 M0 w0 a w Q hb hl hs hQ
theorem TZ{op:Op}{xs:laa}{i s:Nat}{x:AV}(e:Ii P G op A=some (xs,i,s))(hx:jI xs i=some x)(hs:Nat.beq x.cells.length s=true):∃xs' i',(fc P G op).run A h=some (.val (.pptr xs' i' 0) h)/\jI xs' i'=some x:=by
 unfold Ii at e;split at e
 ·rename_i t y ix;split at e
  ·rename_i el hu;split at e
   ·rename_i s0 hsz;split at e
    ·rename_i ys k hl hi;simp only[zc,sr]at e;obtain⟨rfl,rfl,rfl⟩:=e;refine⟨ys,k,?_,hx⟩;simp only[fc,hu,hsz];cases hv:(cA G y).run A with
     |none=>rw[hv]at hl;cases hl
     | some v=>
      cases hj:(cA G ix).run A with
      |none=>rw[hj]at hi;cases hi
      |some iv=>
       rw[hj]at hi;have hi:gX iv=some k:=hi;rw[hv]at hl;cases v<;>simp only[aaP,zc,reduceCtorEq]at hl
       all_goals grind[lO,jL,bp]
    grind
   grind
  grind
 grind
theorem yX{op:Op}{x:AV}{K:Prop}(e:vc (Ii P G op A) x K):(∃xs i,(fc P G op).run A h=some (.val (.pptr xs i 0) h)/\jI xs i=some x)/\K:=by
 unfold vc at e;split at e
 ·rename_i xs i s he;split at e
  ·rename_i hs;exact⟨TZ he e.1 hs,e.2⟩
  simp_all
 simp_all
theorem LU{op:Op}{c:UInt8}{K:Prop}(e:FB (Zc P G op A) c K):(fc P G op).run A h=some (.val (.int .u8 (.ofNat c.toNat)) h)/\K:=by
 unfold FB at e;split at e
 ·rename_i s i he;refine⟨?_,e.2⟩;unfold Zc at he;split at he
  ·rename_i t y ix;split at he
   ·rename_i hu;split at he
    ·rename_i s' k hv hi;simp only[zc,sr]at he;obtain⟨rfl,rfl⟩:=he;simp only[fc,hu];cases hj:(cA G ix).run A with
     |none=>rw[hj]at hi;cases hi
     |some iv=>
      rw[hj]at hi;have hi:gX iv=some k:=hi;grind[JQ,bp]
    grind
   grind
  grind
 simp_all
theorem xB{op:Op}{v:AV}{K:Prop}(e:vQ op h (pu P G op A) v K):(fc P G op).run A h=some (.val v h)/\K:=by
 unfold vQ at e;split at e
 ·rename_i l hi hl;split at e
  ·rename_i es c hg;refine⟨?_,e.2⟩;have e1:=e.1;cases op<;>simp only[R8,reduceCtorEq]at hi
   rename_i t m k ok;simp only[pu]at hl;grind[fc,u9,bp]
  simp_all
 simp_all
theorem Aq{op:Op}{K:AV->Prop}(e:yO (ME P G op A h) K):∃v,(fc P G op).run A h=some (.val v h)/\K v:=by
 unfold yO at e;split at e
 ·rename_i q he;obtain⟨⟨e1,e2⟩,e3⟩:=e;refine⟨_,?_,e3⟩;unfold ME at he;split at he
  ·rename_i t x ix;split at he
   ·rename_i el hu;split at he
    ·rename_i s0 hsz;split at he
     ·rename_i id ep off len c k hv hi;split at he
      ·rename_i sz op' ep1 xs hg;split at he
       ·rename_i hb;cases he
        simp only at e1 e2;subst e1;cases hj:(cA G ix).run A with
        |none=>rw[hj]at hi;cases hi
        |some iv=>
         rw[hj]at hi;have hi:gX iv=some k:=hi;have hlt:Nat.blt k len=true:=by simp_all
         have hb':(Nat.beq sz (s0+1)&&Nat.beq ep ep)=true:=by simp_all
         have ha:FT off k=off+k:=by unfold FT;grind
         simp only[fc,hu,hsz,hv,hj,lO,jL,hi,qS,hg,hb',hlt,bp,ha]
       grind
      grind
     ·rename_i id ep len c k hv hi;split at he
      ·rename_i sz op' ep1 xs hg;split at he
       ·rename_i hb;cases he
        simp only at e1 e2;subst e1;cases hj:(cA G ix).run A with
        |none=>rw[hj]at hi;cases hi
        |some iv=>
         rw[hj]at hi;have hi:gX iv=some k:=hi;have hlt:Nat.blt k len=true:=by simp_all
         have hb':(Nat.beq sz (s0+1)&&Nat.beq ep ep)=true:=by simp_all
         have ha:FT 0 k=0+k:=by grind[FT]
         simp only[fc,hu,hsz,hv,hj,lO,jL,hi,qS,hg,hb',hlt,bp,ha]
       grind
      grind
     grind
    grind
   grind
  grind
 simp_all
theorem yS{x:Option Operand}{d n:Nat}{k:lae->lae}(e:O8 G A d x=some n):∃w,rK G x A k=k w/\jk d w=some n:=by
 cases x with
 |none=>exact⟨none,rfl,e⟩
 |some x=>
  simp only[O8,R4]at e;cases hx:(cA G x).run A with
  |none=>grind
  |some v=>rw[hx]at e;exact⟨some v,by grind[rK],e⟩
theorem zT{op:Op}{ys:laa}{K:AV->Prop}(e:yI (L9 P G op A) ys K):∃v,(∀h,(fc P G op).run A h=some (.val v h))/\K v:=by
 unfold yI at e;split at e
 ·rename_i q he;obtain⟨⟨e1,⟨e2,e4⟩,e5⟩,e3⟩:=e;refine⟨_,λh=>?_,e3⟩;unfold L9 at he;split at he
  ·rename_i t x lo hi;split at he
   ·rename_i el hu;split at he
    ·rename_i s0 hsz;split at he
     ·rename_i xs hv;split at he
      ·rename_i l hh hl hhi;cases he
       simp only at e1 e2 e4 e5;subst e5;have hc:(Nat.ble l hh&&Nat.ble hh xs.length)=true:=by simp_all
       obtain⟨w1,o1,n1⟩:=yS (k:=λlo=>rK G hi A λhi=>rK G none A λmx=>dt (s0+1) h ((cA G x).run A) lo hi mx) hl;obtain⟨w2,o2,n2⟩:=yS (k:=λhi=>rK G none A λmx=>dt (s0+1) h ((cA G x).run A) w1 hi mx) hhi;simp only[fc,hu,hsz];rw[o1,o2];simp only[rK,dt,hv,gj,e1,n1,n2,vi,hc,Hc,bp]
      grind
     grind
    grind
   grind
  grind
 simp_all
theorem AZ{op:Op}{K:AV->Prop}(e:yL (MZ P G op A h) K):∃v,(fc P G op).run A h=some (.val v h)/\K v:=by
 unfold yL at e;split at e
 ·rename_i q he;obtain⟨⟨e1,e2,e4⟩,e3⟩:=e;refine⟨_,?_,e3⟩;unfold MZ at he;split at he
  ·rename_i t x lo hi;split at he
   ·rename_i el hu;split at he
    ·rename_i s0 hsz;split at he
     ·rename_i id ep off len hv;split at he
      ·rename_i l hh sz op' ep1 xs hl hhi hg;split at he
       ·rename_i hb;cases he
        simp only at e1 e2 e4;subst e1;have ha:∀k,FT off k=off+k:=λk=>by unfold FT;grind
        have hs:YJ hh l=hh-l:=by unfold YJ;grind
        rw[ha]at e4;have hb':(Nat.beq sz (s0+1)&&Nat.beq ep ep)=true:=by simp_all
        have hc:(Nat.ble l hh&&Nat.ble hh (room xs.length off none))=true:=by simp only[room,bd,ba,decide_eq_true_eq];omega
        obtain⟨w1,o1,n1⟩:=yS (k:=λlo=>rK G hi A λhi=>rK G none A λmx=>dt (s0+1) h ((cA G x).run A) lo hi mx) hl;obtain⟨w2,o2,n2⟩:=yS (k:=λhi=>rK G none A λmx=>dt (s0+1) h ((cA G x).run A) w1 hi mx) hhi;simp only[fc,hu,hsz];rw[o1,o2];simp only[rK,dt,hv,gj,qS,hg,hb',n1,n2,qj,hc,bp,ha,hs]
       grind
      grind
     grind
    grind
   grind
  grind
 simp_all
theorem AU{op:Op}{x:AV}{K:AV->Prop}(e:yN (MD P G op A h) x K):∃v,(fc P G op).run A h=some (.val v h)/\K v:=by
 unfold yN at e;split at e
 ·rename_i q he;split at e
  ·rename_i v hp;obtain⟨⟨e1,e2⟩,e3⟩:=e;refine⟨_,?_,e3⟩;unfold MD at he;split at he;all_goals grind[fc,AM,Ac,bp,Nat.beq_refl]
  simp_all
 simp_all
theorem AJ{op:Op}{x:AV}{xs':laa}{K:AHeap->Prop}(e:yM h (MA P G op A h) x xs' K):∃h',(fc P G op).run A h=some (.val gh h')/\K h':=by
 unfold yM at e;split at e
 ·rename_i q he;split at e
  ·rename_i y hp;obtain⟨⟨e1,e2,e4⟩,e3⟩:=e;refine⟨_,?_,e3⟩;unfold MA at he;split at he
   ·rename_i t a b;split at he
    ·rename_i n h1;split at he
     ·rename_i id ep i off v hv hb;split at he
      ·rename_i sz op' ep1 xs hg;split at he
       ·rename_i hf;cases he
        simp_all[fc,tq,ww]
       grind
      grind
     grind
    grind
   grind
  simp_all
 simp_all
theorem Ud{es:laq}{c:Nat}{k v:AV}{id:Nat}{r:Option (Option (Nat×AEnt))}{es':laq}{c':Nat}(e:qL es c k v r=some (es',c')):yE h id es c k v r=some (h.put id (.map es' c')):=by
 unfold qL at e;grind[yE]
theorem zt{op:Op}{es':laq}{c':Nat}{K:AHeap->Prop}(e:yF op h (pu P G op A) es' c' K):∃h',(fc P G op).run A h=some (.val gh h')/\K h':=by
 unfold yF at e;split at e
 ·rename_i l hi hl;split at e
  ·rename_i es c hg;refine⟨_,?_,e.2⟩;have e1:=Ud (h:=h) (id:=l.id) e.1;have key:∀(t:TypeId)(m k x:Operand),pu P G (.mapUpdate t m k x) A=some l->(fc P G (.mapUpdate t m k x)).run A h=some (.val gh (h.put l.id (.map es' c'))):=by
    intro t m k x hl;simp only[pu]at hl;split at hl
    ·rename_i kt el hu;split at hl
     ·rename_i ag sz lv h1 h2 h3;split at hl
      ·rename_i id kk xx hm hk hx;split at hl
       ·rename_i hkr;cases hl
        simp only[fc,hu,h1,h2,h3,hm,hk,hx,rF,hkr,hg];rw[e1];rfl
       grind
      grind
     grind
    grind
   cases op<;>simp only[XG,reduceCtorEq]at hi
   ·exact key _ _ _ _ hl
   simp_all
  simp_all
 simp_all
theorem Dq{op:Op}{w:Bool}{K:AV->Prop}(e:ER w (pkR G w op A) K):∃v,(fc P G op).run A h=some (.val v h)/\K v:=by
 unfold ER at e;split at e
 ·rename_i t v he;refine⟨v,?_,e.2⟩;have e1:=e.1;subst e1;unfold pkR at he;split at he
  ·rename_i c a b;split at he
   ·rename_i t' hc;cases t<;>simp only[]at he<;>split at he<;>first|(cases he;done)|skip
    all_goals
     rename_i u hu;simp only[zc,sr]at he;obtain⟨rfl,rfl⟩:=he;simp only[fc,hc,MI,hu,bp]
   grind
  grind
 simp_all
theorem Lg {op:Op}{K:AV->AHeap->Prop}(e:FH h (TP P G op A h) K):∃v h',(fc P G op).run A h=some (.val v h')/\K v h':=by
 unfold FH at e;split at e
 ·rename_i a ha;split at e
  ·rename_i sz ep xs hg;split at e
   ·rename_i hsz;obtain⟨⟨e1,e2,e3⟩,hK⟩:=e;refine⟨_,_,?_,hK⟩;unfold TP at ha;split at ha
    ·rename_i args argTypes;split at ha
     ·rename_i s x hargs;split at ha
      ·rename_i el te hel hts;split at ha
       ·rename_i i hinfo;split at ha
        ·rename_i sz0 z hisz hz;split at ha
         ·rename_i hzz;unfold abz at ha;split at ha
          ·rename_i id ep0 len x0 hs hx;split at ha
           ·rename_i y ys hsrc;split at ha
            ·rename_i hfit;cases ha
             simp only[]at e1 e2 e3 hsz hg;subst e1;have hbeq:Nat.beq ep0 ep0=true:=qt _;have hsz':Nat.beq (sz0+1) sz=true:=by simp_all
             have hble:Nat.ble (0+len+(y::ys).length) xs.length=false:=by grind[bd]
             simp_all[fc,iD,dx,ge,gE,fJ]
            grind
           grind
          grind
         grind
        grind
       grind
      grind
     grind
    grind
   simp_all
  simp_all
 simp_all
theorem B7 {op:Op}{K:AV->AHeap->Prop}(e:zq h (OQ P G op A h) K):∃v h',(fc P G op).run A h=some (.val v h')/\K v h':=by
 unfold zq at e;split at e
 ·rename_i a ha;obtain⟨⟨hne,hfit⟩,e⟩:=e;unfold OQ at ha;split at ha
  ·rename_i args argTypes;split at ha
   ·rename_i s x hargs;split at ha
    ·rename_i el te hel hts;split at ha
     ·rename_i i hinfo;split at ha
      ·rename_i sz0 z hisz hz;split at ha
       ·rename_i hzz;unfold abA at ha;split at ha
        ·rename_i sv xv hs hx;split at ha
         ·rename_i ys hsrc;cases ha
          simp only[]at hne hfit e;obtain⟨y,yr,rfl⟩:∃y yr,ys=y::yr:=by
           cases ys with
           |nil=>simp_all
           |cons y yr=>simp_all
          split at e
          ·refine⟨_,_,?_,e.2⟩;simp_all[fc,iD,dx,ge,gE,iR,fJ]
          ·refine⟨_,_,?_,e.2⟩;have e1:small (([]:laa).length+(y::yr).length) i.bytes=true:=by simp_all
           have e2:dL (sz0+1) ([]:laa)=true:=rfl;simp only[fc,hargs,iD,hel,hts,hinfo,hisz,hz,hzz,hs,hx,dx,ge,hsrc,gE,hfit,e1,e2,Bool.and_true,iR,xj,fJ]
          ·rename_i z0 zs;obtain⟨⟨e1,e2⟩,hK⟩:=e;refine⟨_,_,?_,hK⟩;simp only[fc,hargs,iD,hel,hts,hinfo,hisz,hz,hzz,hs,hx,dx,ge,hsrc,gE,hfit,e1,e2,Bool.and_true,iR,fJ]
          ·rename_i id ep0 len;split at e
           ·rename_i sz ep xs hg;split at e
            ·rename_i hsz;obtain⟨⟨e1,e2,e3⟩,hK⟩:=e;refine⟨_,_,?_,hK⟩;subst e1;have hbeq:Nat.beq ep0 ep0=true:=qt _;have hsz':Nat.beq (sz0+1) sz=true:=by simp_all
             have hble:Nat.ble (0+len+(y::yr).length) xs.length=false:=by grind[bd]
             simp_all[fc,iD,dx,ge,gE,fJ]
            simp_all
           simp_all
          simp_all
         grind
        grind
       grind
      grind
     grind
    grind
   grind
  grind
 simp_all
theorem cE.nz{b:lan}{Φ:St->Prop}{t:Nat}{xs:laa}{A1:Fr}(ht:s.tmps.get t=some (.ls xs))(p0:xs=[]->∃A0,jU s.tmps (some t) .nils=some A0/\cE P G b ops l ⟨A0,s.heap⟩ Φ)
  (p1:jU s.tmps (some t) (.ps xs false)=some A1)(h1:cE P G b ops l ⟨A1,s.heap⟩ Φ):cE P G b ops l s Φ:=by
 intro i N h0' pl0 M0 w0 a w Q hb hl' hs hQ;obtain⟨pl,M,g1,g2,g3,g4,g5⟩:=hs.ex;obtain⟨hlt,hv⟩:=g3.at_ t _ ht;have same:a.put (some t) (a.tmps.getD t undef)=a:=by
  obtain⟨tm,df⟩:=a;simp only[Act.put];congr 1;apply Array.ext_getElem?;intro k;rw[Array.getElem?_setIfInBounds];by_cases e:t=k
  ·subst e;have:t<tm.size:=by have:=g3.size;simp_all
   simp_all
  grind
 generalize hc:a.tmps.getD t undef=c at hv same;cases hv with
 |lsn=>
  obtain⟨A0,e0,h0⟩:=p0 rfl;obtain⟨q1,q2⟩:=n8 g3 (VRel.nils (pl:=pl) (M:=M)) (by rw[hs.n];exact hs.small) e0;rw[same]at q1;exact h0 i N h0' pl0 M0 w0 a w Q hb hl' ⟨⟨pl,M,g1,g2,q1,g4,g5⟩,by rw[<-hs.n];omega,hs.small⟩ hQ
 |lsp h ht0=>
  obtain⟨q1,q2⟩:=n8 g3 h (by rw[hs.n];exact hs.small) p1;rw[same]at q1;exact h1 i N h0' pl0 M0 w0 a w Q hb hl' ⟨⟨pl,M,g1,g2,q1,g4,g5⟩,by rw[<-hs.n];omega,hs.small⟩ hQ
theorem UW{b:lan}{Φ:St->Prop}{d:D}{K:D->St->Prop}(h:WPn d s K)(hk:∀d s',s'.tmps.n=s.tmps.n->K d s'->cE P G b ops l s' Φ):cE P G b ops l s Φ:=by
 have key:∀{t:Nat}{v:AV}{A':Fr},jU s.tmps (some t) v=some A'->A'.n=s.tmps.n:=λ{t v A'} e=>by grind[jU,Fr.put]
 cases d
 case nz t a b=>grind[WPn,aaI,bP,cE.nz]
 all_goals exact hk _ _ rfl h
theorem gn(hG:jK G)(hc:cW P G call){Φ:St->Prop}:∀(l:las)(d:D)(s:St)(K:D->St->Prop),Z0 P G call m ops l d s K->(∀d s,s.tmps.n<=60000->K d s->Φ s)->cE P G (some m) ops l s Φ
 |[],d,s,K,h,hK=>cE.bounded λhn=>cE.nil (hK d s hn h)
 | o::r,d,s,K,h,hK=>by
  refine cE.bounded λhn=>?_
  simp only[Z0]at h;refine UW h λd s hn' h=>?_
  have hn:s.tmps.n<=60000:=by omega
  refine tc hG hn h λd s' _ hW h=>cE.weak hW ?_
  refine UW h λd s' _ h=>?_
  refine UJ h (λhg d h=>?_) (λhg d h=>?_)
  ·cases d<;>simp only[abN]at h
   case go n d'=>
    split at h
    ·rename_i v h' hb;obtain⟨A',e1,e2⟩:=bP h;refine cE.one (s':=⟨A',h'⟩) hc ?_ (gn hG hc r _ _ K e2 hK);grind[zG,bR,fin]
    simp_all
   case val v d'=>
    obtain⟨A',e1,e2⟩:=bP h.2;exact cE.val hg h.1 e1 (gn hG hc r _ _ K e2 hK)
   case opv v h' d'=>
    obtain⟨A',e1,e2⟩:=bP h.2;exact cE.val hg h.1 e1 (gn hG hc r _ _ K e2 hK)
   case elem x d'=>
    obtain⟨⟨xs,i,e1,e2⟩,h2⟩:=yX (h:=s'.heap) h;obtain⟨A',e3,e4⟩:=bP h2;exact LB hg e1 (Le.elem e2) e3 (gn hG hc r _ _ K e4 hK)
   case chr c d'=>
    obtain⟨e1,h2⟩:=LU (h:=s'.heap) h;obtain⟨A',e3,e4⟩:=bP h2;exact cE.val hg e1 e3 (gn hG hc r _ _ K e4 hK)
   case efd v h1 d'=>
    obtain⟨f,args,e1,e2,h2⟩:=kj h;obtain⟨A',e3,e4⟩:=bP h2;exact cE.calls hg e1 e2 λv1 h1 ⟨q1,q2⟩=>by
     subst q1;subst q2;exact⟨A',e3,gn hG hc r _ _ K e4 hK⟩
   case look v d'=>
    obtain⟨e1,h2⟩:=xB h;obtain⟨A',e3,e4⟩:=bP h2;exact cE.val hg e1 e3 (gn hG hc r _ _ K e4 hK)
   case upd es c d'=>
    obtain⟨h',e1,h2⟩:=zt h;obtain⟨A',e3,e4⟩:=bP h2;exact cE.val hg e1 e3 (gn hG hc r _ _ K e4 hK)
   case pk w d'=>
    obtain⟨v,e1,h2⟩:=Dq (P:=P) (h:=s'.heap) h;obtain⟨A',e3,e4⟩:=bP h2;exact cE.val hg e1 e3 (gn hG hc r _ _ K e4 hK)
   case app d'=>
    obtain⟨v,h',e1,h2⟩:=Lg h;obtain⟨A',e3,e4⟩:=bP h2;exact cE.val hg e1 e3 (gn hG hc r _ _ K e4 hK)
   case apl d'=>
    obtain⟨v,h',e1,h2⟩:=B7 h;obtain⟨A',e3,e4⟩:=bP h2;exact cE.val hg e1 e3 (gn hG hc r _ _ K e4 hK)
   case slc d'=>
    obtain⟨v,e1,h2⟩:=AZ h;obtain⟨A',e3,e4⟩:=bP h2;exact cE.val hg e1 e3 (gn hG hc r _ _ K e4 hK)
   case slp ys d'=>
    obtain⟨v,e1,h2⟩:=zT h;obtain⟨A',e3,e4⟩:=bP h2;exact cE.val hg (e1 _) e3 (gn hG hc r _ _ K e4 hK)
   case rix d'=>
    obtain⟨v,e1,h2⟩:=Aq h;obtain⟨A',e3,e4⟩:=bP h2;exact cE.val hg e1 e3 (gn hG hc r _ _ K e4 hK)
   case rld x d'=>
    obtain⟨v,e1,h2⟩:=AU h;obtain⟨A',e3,e4⟩:=bP h2;exact cE.val hg e1 e3 (gn hG hc r _ _ K e4 hK)
   case rst x xs d'=>
    obtain⟨h',e1,h2⟩:=AJ h;obtain⟨A',e3,e4⟩:=bP h2;exact cE.val hg e1 e3 (gn hG hc r _ _ K e4 hK)
   case pure v d'=>
    obtain⟨f,args,e1,e2,h2⟩:=kj h;obtain⟨A',e3,e4⟩:=bP h2;exact cE.calls hg e1 (e2 _) λv1 h1 ⟨q1,q2⟩=>by
     subst q1;subst q2;exact⟨A',e3,gn hG hc r _ _ K e4 hK⟩
   case eff Y rr hp I d'=>
    obtain⟨f,args,e1,e2,h2⟩:=kj h;exact cE.calls hg e1 e2 λv1 h1 ⟨y,q0,q1,q2⟩=>by
     subst q1;subst q2;obtain⟨A',e3,e4⟩:=bP (h2 y q0);exact⟨A',e3,gn hG hc r _ _ K e4 hK⟩
  ·obtain⟨A',e1,e2⟩:=bP h;exact cE.skip hg e1 (gn hG hc r _ _ K e2 hK)
theorem IA{F:Fr}{d:DOper}(hg:eO ⟨F.n,b7 F d.look .nil⟩ d.r.g=some true):Fi call F h d=Za call F h d:=by
 simp only[Fi,hg];rfl
theorem DSpec.less{F:Fr}{look:lba}{h1:AHeap}{r:Rec}{u:AV}(hl:Le u v)(hd:DSpec P G ops o look F h v h1 r):DSpec P G ops o look F h u h1 r:=⟨hd.le,hd.keep,hd.new,λnk n0 g pl M a w K Q q1 q2 q3 q4 q5 q6 q7 q8 q9 q10 hK=>hd.exec nk n0 g pl M a w K Q q1 q2 q3 q4 q5 q6 q7 q8 q9 q10 λcv w' pl' M' g' z1 z2 z3 z4 z5 z6 z7=>hK cv w' pl' M' g' z1 z2 (hl _ _ _ z3) z4 z5 z6 z7⟩
theorem LD(hG:jK G){F:Fr}{h1:AHeap}{u:AV}(hg:eO ⟨F.n,b7 F (o.looksAt ops) .nil⟩ (eL ops o)=some true)(e:(fc P G o.op).run ⟨F.n,b7 F (o.looksAt ops) .nil⟩ AHeap.none=some (.val v h1))
  (ht:iT F 0 (o.looksAt ops)=true)(hl:Le u (gJ 0 0 v h1).1)(hu:u.top=0):DSpec P G ops o (o.looksAt ops) F h u h ⟨⟨false,[],0,0⟩,⟨false,[],0,0⟩⟩:=by
 refine⟨ar _,λ_ _ _ h=>h,λid h1 h2=>by omega,?_⟩;intro nk n0 g pl M a w K Q hn0 hnk hbig hr hvis hU hG' hs hdf hF hK;have hf0:FrRel pl M ⟨F.n,b7 F (o.looksAt ops) .nil⟩ a:=iw hs hdf hF;rw[fN hf0 hg];simp only[if_true];left;have hf:FrRel (de pl 0) M ⟨F.n,b7 F (o.looksAt ops) .nil⟩ a:=ru hs hdf ht hF;have hcut:de pl 0=λ_=>none:=by
  funext id;cases hp:de pl 0 id with
  |none=>rfl
  |some p=>exact absurd (aR.1 hp).1 (qu _)
 rw[hcut]at hf;have hG2:qc G (λ_=>none) M:=hG'.none hG;obtain⟨dst,op,ty,pos,after,guard⟩:=o;obtain⟨pl1,M1,cv,w1,nx,q1,q2,q3,q4,q5,q6⟩:=Af (P:=P) (G:=G) op _ M _ _ v _ a w dst ty pos after guard hG2 (rX hr) hf e;obtain⟨pl2,M2,k1,k2,k3,_⟩:=vZ 0 (v2:=(gJ 0 0 v h1).1) (h2:=(gJ 0 0 v h1).2) (rX hr) q4 q3 q5 q6 rfl;have fin:K (a.put dst cv) w1:=by
  obtain⟨z1,z2⟩:=wi (m:=n0) hr k2 k3;exact hK cv w1 pl M2 g z1 z2 ((hl _ _ _ k1).none hu) (nS.refl _) (λid h _=>h) (λ_ _=>rfl) (λid o' hh=>absurd hh (sZ (ids:=[])))
 unfold Oper.wp;rw[q1];rcases q2 with rfl|⟨rfl,rfl⟩
 ·exact fin
 ·exact fin
theorem GN{h h':AHeap}:∀{n:Nat},Q1 h h' n->∀id,id<n->h'.get id=h.get id
 |0,_,id,hid=>absurd hid (qu _)
 | n+1,hs,id,hid=>by
  rcases fg id n with q|q
  ·exact GN hs.2 id q
  ·have:id=n:=by omega
   subst this;exact hs.1
theorem dF{masks:List (Nat×Nat)}{k:Nat}{r:Rec}{rs:List Rec}{p:Prop}(h:BC masks k r rs p):lm (fV masks k) r rs k=true/\p:=by grind[BC]
theorem gY(hG:jK G)(hc:cW P G call){Φ:Fr->AHeap->Prop}:∀(l:las)(k:Nat)(d:D)(F:Fr)(h:AHeap)(rs:List Rec)(K:D->St->Prop),Z1 P G call ops (eb ops.toList 0 []) l k d F h rs K->F.n<=60000->(∀d F h,F.n<=60000->K d ⟨F,h⟩->Φ F h)->s9 P G ops k l F h rs Φ
 |[],k,d,F,h,rs,K,hw,hF,hK=>by grind[Z1,s9.done]
 | o::r,k,d,F,h,rs,K,hw,hF,hK=>by
  simp only[Z1]at hw;refine UJ hw (λhg d hw=>?_) (λhg d hw=>?_)
  ·cases d<;>simp only[abO]at hw
   case go n d'=>
    split at hw
    ·rename_i v h' rec hd;obtain⟨e1,e2⟩:=dF hw;obtain⟨A',e3,e4⟩:=bP e2;refine s9.step (DSpec.of hc (r:=rec) ?_) e1 e3 (gY hG hc r (k+1) _ _ _ _ K e4 (by grind[fX]) hK);grind[IA,bR]
    simp_all
   case asl u d'=>
    split at hw
    ·rename_i v h' rec hd;obtain⟨hl,hw⟩:=hw;obtain⟨e1,e2⟩:=dF hw;obtain⟨A',e3,e4⟩:=bP e2;refine s9.step (DSpec.less hl (DSpec.of hc (r:=rec) ?_)) e1 e3 (gY hG hc r (k+1) _ _ _ _ K e4 (by grind[fX]) hK);grind[IA,bR]
    simp_all
   case slc d'=>
    split at hw
    ·rename_i hk;obtain⟨v,e0,hw⟩:=AZ hw;obtain⟨e1,e2⟩:=dF hw;obtain⟨A',e3,e4⟩:=bP e2;refine s9.step (kM (d:=⟨bR P G ops o,o.looksAt ops,dE o.op,da o.op,0⟩) (ids:=cb F (dE o.op)) rfl (by simp_all) ?_ hg) e1 e3 (gY hG hc r (k+1) _ _ _ _ K e4 (by grind[fX]) hK);grind[bR,qz]
    simp_all
   case rix d'=>
    split at hw
    ·rename_i hk;obtain⟨v,e0,hw⟩:=Aq hw;obtain⟨e1,e2⟩:=dF hw;obtain⟨A',e3,e4⟩:=bP e2;refine s9.step (kM (d:=⟨bR P G ops o,o.looksAt ops,dE o.op,da o.op,0⟩) (ids:=cb F (dE o.op)) rfl (by simp_all) ?_ hg) e1 e3 (gY hG hc r (k+1) _ _ _ _ K e4 (by grind[fX]) hK);grind[bR,qz]
    simp_all
   case rld x d'=>
    split at hw
    ·rename_i hk;obtain⟨v,e0,hw⟩:=AU hw;obtain⟨e1,e2⟩:=dF hw;obtain⟨A',e3,e4⟩:=bP e2;refine s9.step (kM (d:=⟨bR P G ops o,o.looksAt ops,dE o.op,da o.op,0⟩) (ids:=cb F (dE o.op)) rfl (by simp_all) ?_ hg) e1 e3 (gY hG hc r (k+1) _ _ _ _ K e4 (by grind[fX]) hK);grind[bR,qz]
    simp_all
   case slp ys d'=>
    split at hw
    ·rename_i hk;obtain⟨v,e0,hw⟩:=zT hw;obtain⟨e1,e2⟩:=dF hw;obtain⟨A',e3,e4⟩:=bP e2;refine s9.step (kM (d:=⟨bR P G ops o,o.looksAt ops,dE o.op,da o.op,0⟩) (ids:=cb F (dE o.op)) rfl (by simp_all) ?_ hg) e1 e3 (gY hG hc r (k+1) _ _ _ _ K e4 (by grind[fX]) hK);grind[bR,qz]
    simp_all
   case rst x xs d'=>
    split at hw
    ·rename_i hk;obtain⟨k1,k2,hw⟩:=hw;obtain⟨hw',e0,hw⟩:=AJ hw;split at hw
     ·rename_i v h' rec hd;obtain⟨e1,e2⟩:=dF hw;obtain⟨A',e3,e4⟩:=bP e2;refine s9.step (mO (d:=⟨bR P G ops o,o.looksAt ops,dE o.op,da o.op,0⟩) (ids:=cb F (dE o.op)) rfl ?_ hg) e1 e3 (gY hG hc r (k+1) _ _ _ _ K e4 (by grind[fX]) hK);simp_all[bR,pR,nH]
     simp_all
    simp_all
   case upd es c d'=>
    split at hw
    ·rename_i hk;obtain⟨k1,k2,hw⟩:=hw;obtain⟨hw',e0,hw⟩:=zt hw;split at hw
     ·rename_i v h' rec hd;obtain⟨e1,e2⟩:=dF hw;obtain⟨A',e3,e4⟩:=bP e2;refine s9.step (mO (d:=⟨bR P G ops o,o.looksAt ops,dE o.op,da o.op,0⟩) (ids:=cb F (dE o.op)) rfl ?_ hg) e1 e3 (gY hG hc r (k+1) _ _ _ _ K e4 (by grind[fX]) hK);simp_all[bR,pR,nH]
     simp_all
    simp_all
   case apx xs d'=>
    split at hw
    ·rename_i hk;obtain⟨k1,k2,hw⟩:=hw;obtain⟨v0,hw',e0,hw⟩:=B7 (acI hw);split at hw
     ·rename_i v h' rec hd;obtain⟨e1,e2⟩:=dF hw;obtain⟨A',e3,e4⟩:=bP e2;refine s9.step (mO (d:=⟨bR P G ops o,o.looksAt ops,dE o.op,da o.op,0⟩) (ids:=cb F (dE o.op)) rfl ?_ hg) e1 e3 (gY hG hc r (k+1) _ _ _ _ K e4 (by grind[fX]) hK);grind[bR,pR,nH]
     simp_all
    simp_all
   case app d'=>
    split at hw
    ·rename_i hk;obtain⟨k1,k2,hw⟩:=hw;obtain⟨v0,hw',e0,hw⟩:=yU hw;split at hw
     ·rename_i v h' rec hd;obtain⟨e1,e2⟩:=dF hw;obtain⟨A',e3,e4⟩:=bP e2;refine s9.step (mO (d:=⟨bR P G ops o,o.looksAt ops,dE o.op,da o.op,0⟩) (ids:=cb F (dE o.op)) rfl ?_ hg) e1 e3 (gY hG hc r (k+1) _ _ _ _ K e4 (by grind[fX]) hK);grind[bR,pR,nH]
     simp_all
    simp_all
   case opv v0 hw' d'=>
    split at hw
    ·rename_i hk;obtain⟨k1,k2,e0,hw⟩:=hw;split at hw
     ·rename_i v h' rec hd;obtain⟨e1,e2⟩:=dF hw;obtain⟨A',e3,e4⟩:=bP e2;refine s9.step (mO (d:=⟨bR P G ops o,o.looksAt ops,dE o.op,da o.op,0⟩) (ids:=cb F (dE o.op)) rfl ?_ hg) e1 e3 (gY hG hc r (k+1) _ _ _ _ K e4 (by grind[fX]) hK);grind[bR,pR,nH]
     simp_all
    simp_all
   case val v d'=>
    split at hw
    ·rename_i hk;obtain⟨e0,hw⟩:=hw;obtain⟨e1,e2⟩:=dF hw;obtain⟨A',e3,e4⟩:=bP e2;refine s9.step (kM (d:=⟨bR P G ops o,o.looksAt ops,dE o.op,da o.op,0⟩) (ids:=cb F (dE o.op)) rfl (by simp_all) ?_ hg) e1 e3 (gY hG hc r (k+1) _ _ _ _ K e4 (by grind[fX]) hK);grind[bR,qz]
    simp_all
   case elem x d'=>
    split at hw
    ·rename_i hk;obtain⟨⟨xs,i,e0,ex⟩,hw⟩:=yX (h:=⟨1000000,bL h (cb F (dE o.op)) .nil⟩) hw;obtain⟨e1,e2⟩:=dF hw;obtain⟨A',e3,e4⟩:=bP e2;refine s9.step (DSpec.less (Le.elem ex) (kM (d:=⟨bR P G ops o,o.looksAt ops,dE o.op,da o.op,0⟩) (ids:=cb F (dE o.op)) rfl (by simp_all) ?_ hg)) e1 e3 (gY hG hc r (k+1) _ _ _ _ K e4 (by grind[fX]) hK);grind[bR,qz]
    simp_all
   case efx same v h' d'=>
    obtain⟨f,args,e1,hw⟩:=kj hw;split at hw
    ·rename_i hb;simp only[bd,ba,decide_eq_true_eq]at hb;obtain⟨⟨k1,k3⟩,k4⟩:=hb;obtain⟨k2,k5,e2,hw⟩:=hw;have hcl:=jq k2;cases same with
     |true=>
      obtain⟨e3,hw⟩:=dF hw;obtain⟨F',e5,e6⟩:=bP hw;exact s9.step (DSpec.effS hg e1 k1 (λid o' hh=>gm h.n hcl id o' (AHeap.get_some.1 hh).1 hh) k3 (GN k5) e2) e3 e5 (gY hG hc r (k+1) _ _ _ _ K e6 (by grind[fX]) hK)
     |false=>
      obtain⟨e3,hw⟩:=dF hw;obtain⟨F',e5,e6⟩:=bP hw;exact s9.step (DSpec.eff hg e1 k1 (λid o' hh=>gm h.n hcl id o' (AHeap.get_some.1 hh).1 hh) k3 (pH h.n (by simp_all)) e2) e3 e5 (gY hG hc r (k+1) _ _ _ _ K e6 (by grind[fX]) hK)
    simp_all
   case efd v h' d'=>
    obtain⟨f,args,e1,hw⟩:=kj hw;split at hw
    ·rename_i hk;simp only[bd,ba,decide_eq_true_eq]at hk;obtain⟨⟨⟨k1,k2⟩,k3⟩,k4⟩:=hk;obtain⟨e2,hw⟩:=hw;obtain⟨e3,e4⟩:=dF hw;obtain⟨A',e5,e6⟩:=bP e4;exact s9.step (DSpec.eff hg e1 k1 (λid o' hh=>gm h.n k2 id o' (AHeap.get_some.1 hh).1 hh) k3 (pH h.n k4) e2) e3 e5 (gY hG hc r (k+1) _ _ _ _ K e6 (by grind[fX]) hK)
    simp_all
   case look v d'=>
    split at hw
    ·rename_i hk;obtain⟨e0,hw⟩:=xB hw;obtain⟨e1,e2⟩:=dF hw;obtain⟨A',e3,e4⟩:=bP e2;refine s9.step (kM (d:=⟨bR P G ops o,o.looksAt ops,dE o.op,da o.op,0⟩) (ids:=cb F (dE o.op)) rfl (by simp_all) ?_ hg) e1 e3 (gY hG hc r (k+1) _ _ _ _ K e4 (by grind[fX]) hK);grind[bR,qz]
    simp_all
   case pk w d'=>
    split at hw
    ·rename_i hk;obtain⟨v,e0,hw⟩:=Dq (P:=P) (h:=⟨1000000,bL h (cb F (dE o.op)) .nil⟩) hw;obtain⟨e1,e2⟩:=dF hw;obtain⟨A',e3,e4⟩:=bP e2;refine s9.step (kM (d:=⟨bR P G ops o,o.looksAt ops,dE o.op,da o.op,0⟩) (ids:=cb F (dE o.op)) rfl (by simp_all) ?_ hg) e1 e3 (gY hG hc r (k+1) _ _ _ _ K e4 (by grind[fX]) hK);grind[bR,qz]
    simp_all
   case pure v d'=>
    obtain⟨f,args,e1,hw⟩:=kj hw;split at hw
    ·rename_i hk;simp only[aD,ba,decide_eq_true_eq]at hk;obtain⟨e2,hw⟩:=hw;obtain⟨e3,e4⟩:=dF hw;obtain⟨A',e5,e6⟩:=bP e4;exact s9.step (DSpec.pure hG hg e1 hk.1 hk.2 e2) e3 e5 (gY hG hc r (k+1) _ _ _ _ K e6 (by grind[fX]) hK)
    simp_all
   case fsl k0 ts t ys d'=>
    obtain⟨v0,h1,e1,hw⟩:=yU hw;split at hw
    ·rename_i ht;obtain⟨hl,hw⟩:=hw;obtain⟨e3,e4⟩:=dF hw;obtain⟨A',e5,e6⟩:=bP e4;exact s9.step (LD hG hg e1 ht hl rfl) e3 e5 (gY hG hc r (k+1) _ _ _ _ K e6 (by grind[fX]) hK)
    simp_all
  ·obtain⟨e1,e2⟩:=dF hw;obtain⟨A',e3,e4⟩:=bP e2;refine s9.step (v:=gh) (h1:=h) (DSpec.of hc (r:=Ev.rd []) ?_) e1 e3 (gY hG hc r (k+1) _ _ _ _ K e4 (by grind[fX]) hK);grind[bR,Fi]
theorem sf{b:lan}{ts:laf}{vs:laa}{os:lai}(h1:pF s.tmps ts=some vs)(h2:eF s.heap s.heap.n 0=some os):cV G b s (UA s.tmps.n ts (vs,os)):=by
 obtain⟨k1,k2⟩:=ez _ _ _ h2;exact cV.sub ⟨rfl,λt v h=>BV h1 t v (uT h),by grind[UA,aw],λid o hh=>by simpa using k2 id o (oQ hh)⟩
theorem NU(hG:jK G){b:Code}{X:Type}{n:Nat}{ts:laf}{S:X->laa×lai}{I:X->Prop}{ms:X->Nat}{K:AExit->D->St->Prop}{Φ:AExit->St->Prop}
  (h3:∀x,I x->∀Φ':AExit->St->Prop,(∀e d s,s.tmps.n<=60000->AY m n ts S I ms x K e d s->Φ' e s)->aA P G (some m) b (UA n ts (S x)) Φ')
  (hK:∀e d s,s.tmps.n<=60000->K e d s->Φ e s)(x0:X)(h2:I x0):aA P G (some m) (.loop b) (UA n ts (S x0)) Φ:=by
 refine aA.loop (λk s1=>∃x,s1.tmps.n=n/\cV G (some m) s1 (UA n ts (S x))/\I x/\ms x=k) (ms x0) ⟨x0,rfl,cV.refl _,h2,rfl⟩ ?_
 rintro k s1 ⟨x,e2,hW1,hx,rfl⟩
 refine aA.weak hW1 (h3 x hx _ λe d s2 hn2 he=>?_);cases e with
 |normal=>
  simp only[AY]at he;refine tc hG hn2 he λd s3 e3 hW3 he=>?_
  split at he
  ·rename_i vs' os' hnn hv' ho';simp only[aD,decide_eq_true_eq]at hnn;obtain⟨y,y1,y2,y3⟩:=he;refine⟨ms y,y2,y,by omega,hW3.trans ?_,y1,rfl⟩;grind[sf]
  simp_all
 |exit id=>exact hK _ d s2 hn2 he
 |ret=>exact hK _ d s2 hn2 he
theorem X1(hm:P.follows .mixedOrders=true)(hG:jK G)(hc:cW P G call):∀(c:Code)(d:D)(s:St)(K:AExit->D->St->Prop)(Φ:AExit->St->Prop),(WP P G call m c).run d s K->(∀e d s,s.tmps.n<=60000->K e d s->Φ e s)->aA P G (some m) c s Φ:=by
 intro c;induction c with
 |skip=>exact λd s K Φ h hK=>aA.bounded λhn=>aA.skip (hK _ d s hn h)
 |label l=>exact λd s K Φ h hK=>aA.bounded λhn=>aA.label (hK _ d s hn h)
 |exit id=>exact λd s K Φ h hK=>aA.bounded λhn=>aA.exit (hK _ d s hn h)
 |ret=>exact λd s K Φ h hK=>aA.bounded λhn=>aA.ret (hK _ d s hn h)
 |scope b ih=>exact λd s K Φ h hK=>aA.scope (ih d s K Φ h hK)
 | seq a b iha ihb=>
  intro d s K Φ h hK;have plain:∀d s,(WP P G call m a).run d s (Yz (WP P G call m b) K)->aA P G (some m) (.seq a b) s Φ:=λd s h=>by
   refine aA.seq (iha d s _ _ h λe d s hn he=>?_);cases e with
   |normal=>exact ihb d s K Φ he hK
   |exit id=>exact hK _ d s hn he
   |ret=>exact hK _ d s hn he
  cases d
  case join X ts S I d1 d2=>
   obtain⟨h1,h2⟩:=h;refine aA.seq (iha d1 s _ _ h1 λe d s' hn he=>?_);cases e with
   |normal=>
    simp only[XF]at he;refine aA.bounded λhn=>?_
    refine tc hG hn he λd s3 e3 hW3 he=>aA.weak hW3 ?_
    split at he
    ·rename_i vs' os' hnn hv' ho';simp only[aD,decide_eq_true_eq]at hnn;obtain⟨y,y1,y3⟩:=he;have hw:=sf (G:=G) (b:=some m) hv' ho';grind[aA.weak]
    simp_all
   |exit id=>exact hK _ d s' hn he
   |ret=>exact hK _ d s' hn he
  case inn d=>exact plain d s h
  all_goals exact plain _ s h
 |block id b ih=>
  intro d s K Φ h hK;refine aA.block (ih d s _ _ h λe d s hn he=>?_);cases e with
  |normal=>exact hK _ d s hn he
  |ret=>exact hK _ d s hn he
  |exit k=>grind[aaC,aD,Xy]
 | region id ops draw=>
  intro d s K Φ h hK;refine aA.bounded λhn=>?_
  cases draw with
  |false=>exact aA.region (gn hG hc _ d s _ h λd s' hn' he=>hK .normal d s' hn' he)
  |true=>
   refine tc hG hn h λd s' e1 hW h=>aA.weak hW ?_
   grind[aA.draw,gY]
 | cond x a b iha ihb=>
  intro d s K Φ h hK;refine aA.bounded λhn=>?_
  refine tc hG hn h λd s' _ hW h=>aA.weak hW ?_
  cases hv:(cA G x).run s'.tmps with
  |none=>rw[hv]at h;exact h.elim
  | some v=>
   rw[hv]at h;cases v<;>simp only[WPc]at h
   case bool t=>
    cases d<;>simp only[]at h
    case go n d'=>grind[aA.cond]
    case tt d'=>grind[Ja]
    case ff d'=>grind[Jb]
    case br d1 d2=>exact aA.cond hv (λk=>iha _ s' K Φ (h.1 k) hK) (λk=>ihb _ s' K Φ (h.2 k) hK)
 | loop b ih=>
  intro d s K Φ h hK;refine aA.bounded λhn=>?_
  refine tc hG hn h λd s' e1 hW h=>aA.weak hW ?_
  have hn':s'.tmps.n<=60000:=by omega
  cases d<;>simp only[XD]at h
  case loop X ts S I ms x0 db=>
   split at h
   ·rename_i vs os hv ho;obtain⟨h1,h2,h3⟩:=h;refine aA.weak (sf hv ho) ?_;rw[h1];exact NU hG (λx hx Φ' hΦ=>ih (db x) _ _ _ (h3 x hx) hΦ) hK x0 h2
   simp_all
  case un n db=>
   refine aA.loop (λk s1=>∃d1,(WP P G call m b).run d1 s1 (unK (WP P G call m b) K k)) n ⟨db,h⟩ ?_
   rintro k s1 ⟨d1,h1⟩
   refine ih d1 _ _ _ h1 λe d2 s2 h2 hn2=>?_
   cases k<;>cases e<;>first|exact⟨_,Nat.lt_succ_self _,_,hn2⟩|exact hn2.elim|exact hK _ _ _ h2 hn2
  case loop2 X Y ts S S' I I' ms ms' x0 db db'=>
   split at h
   ·rename_i vs os hv ho;obtain⟨h1,h2,h3,h4⟩:=h;refine aA.weak (sf hv ho) ?_;rw[h1];refine NU (S:=Sum.elim S S') (I:=Sum.elim I I') (ms:=Sum.elim ms ms') hG (λx hx Φ' hΦ=>?_) hK x0 h2;grind
   simp_all
 |_=>intro d s K Φ h hK;exact h.elim
theorem F7{hp:AHeap}{fn:Func}{Ψ:AV->AHeap->Prop}(pol:Nat)(hf:P.funcs[f]?=some fn)(hN:(fn.name== "runtime.NumGoroutine")=false)(hb:fn.body=some c)(hn:Nat.ble args.length fn.ntmps=true/\Nat.ble fn.ntmps 60000=true)
  (h:aA P G (some hp.n) c ⟨⟨fn.ntmps,ib fn.ntmps args 0 .nil⟩,hp⟩ λe s=>(∀id,e≠.exit id)/\∃s',cV G (some hp.n) s s'/\∃v,fw (fh P fn.results.toList s'.tmps s'.heap)=some v/\Ψ (gJ pol hp.n v s'.heap).1 (gJ pol hp.n v s'.heap).2):aO P G f args hp Ψ:=by
 intro pl M w vs hg hr hv;simp only[bd,decide_eq_true_eq]at hn;left;simp only[beq_eq_false_iff_ne,ne_eq]at hN;refine⟨by simp_all[callFunc],calls_of_wp hf hb ?_⟩;have hs0:SNow G fn.ntmps hp pl M w ⟨⟨fn.ntmps,ib fn.ntmps args 0 .nil⟩,hp⟩ {tmps:=vs++Array.replicate (fn.ntmps-vs.size) undef,defers:=[]} w:=⟨⟨pl,M,hg,hr,zH hv hn.1 hn.2,dK.refl _ _ _ _,ar _⟩,rfl,hn.2⟩
 have hbase:Xd (some hp.n) hp pl:=λm hb=>by cases hb;exact⟨rfl,λid p hq=>hr.dom id p hq⟩
 refine h fn.ntmps hp pl M w _ w _ hbase hs0 λe s a1 w1 h1 h2=>?_
 obtain⟨hne,s',hW,v,hres,hΨ⟩:=h1;have h2:=hW _ _ _ _ _ _ _ hbase h2;obtain⟨pl1,M1,g1,g2,g3,g4,g5⟩:=h2.ex;obtain⟨cv,k1,k2⟩:=tv g2 g3 hres;obtain⟨pl2,M2,q1,q2,q3,q4⟩:=vZ pol hr g2 k2 g4 g5 (rfl:gJ pol hp.n v s'.heap=((gJ pol hp.n v s'.heap).1,(gJ pol hp.n v s'.heap).2));have fin:a1.defers=[]/\∃u,(results fn a1.tmps).run P w1=.ok u w1/\∃cv v h',Ending.returned u=.returned cv/\Ψ v h'/\ip pl M hp w v h' cv w1:=⟨g3.defers,cv,k1,cv,_,_,rfl,hΨ,pl2,M2,q1,q2,q3,q4⟩
 cases e with
 |exit id=>simp_all
 |normal=>exact fin
 |ret=>exact fin
theorem Wj(hG:jK G){res:List ResultVar}{Ψ:AV->AHeap->Prop}{e:AExit}{d:D}(hn:s.tmps.n<=60000)(h:Fv P m res Ψ e d s):
  (∀id,e≠.exit id)/\∃s',cV G (some m) s s'/\∃v,fw (fh P res s'.tmps s'.heap)=some v/\Ψ v s'.heap:=by
 have key:pre m d s (λ_ s=>match fw (fh P res s.tmps s.heap)with|some u=>Ψ u s.heap|none=>False)->∃s',cV G (some m) s s'/\∃v,fw (fh P res s'.tmps s'.heap)=some v/\Ψ v s'.heap:=by
  intro h;refine tc hG hn h λd' s' _ hW h=>⟨s',hW,?_⟩
  grind
 cases e with
 |exit id=>exact h.elim
 |normal=>exact⟨λid h=>(by grind),key h⟩
 |ret=>exact⟨λid h=>(by grind),key h⟩
theorem aO.walk{hp:AHeap}{fn:Func}{Ψ:AV->AHeap->Prop}{W:Prop}(pol:Nat)(hm:P.follows .mixedOrders =true)(hG:jK G)(hc:cW P G call)(hf:P.funcs[f]?=some fn)(hN:(fn.name== "runtime.NumGoroutine")=false)(hb:fn.body=some c)
  (hn:Nat.ble args.length fn.ntmps=true/\Nat.ble fn.ntmps 60000=true)(d:D)(p:W)
  (e:W=(WP P G call hp.n c).run d ⟨⟨fn.ntmps,ib fn.ntmps args 0 .nil⟩,hp⟩ (Fv P hp.n fn.results.toList λv h=>Ψ (gJ pol hp.n v h).1 (gJ pol hp.n v h).2)):aO P G f args hp Ψ:=
 F7 pol hf hN hb hn (X1 hm hG hc c d _ _ _ (e▸p) λ_ _ _ hn h=>Wj hG hn h)
theorem aP.walk{fn:Func}{W:Prop}(hm:P.follows .mixedOrders =true)(hG:jK G)(hc:cW P G call)(ht:az args=0)(hv:v.top=0)(hf:P.funcs[f]?=some fn)(hN:(fn.name== "runtime.NumGoroutine")=false)(hb:fn.body=some c)
  (hn:Nat.ble args.length fn.ntmps=true/\Nat.ble fn.ntmps 60000=true)(d:D)(p:W)
  (e:W=(WP P G call 0 c).run d ⟨⟨fn.ntmps,ib fn.ntmps args 0 .nil⟩,AHeap.none⟩ (Fv P 0 fn.results.toList λu h=>Le v (gJ 0 0 u h).1)):aP P G f args v:=
 lg hG ht hv (aO.less (aO.walk (Ψ:=λv1 _=>Le v v1) (call:=call) 0 hm hG hc hf hN hb hn d p e) λv1 h' e=>⟨v,e,rfl⟩)
end
abbrev By(x v:Bool):Prop:=x=v
theorem et{a b:Prop}(h:a)(k:b):a/\b:=⟨h,k⟩
theorem cM{b:Bool}(h:b=false):ak b=true:=by simp_all
theorem cp{b:Bool}(h:b=true):ak b=false:=by simp_all
theorem Uq{u v:AV}(h:u=v):Le u v:=by grind[Le.refl]
theorem Le.int{k:IntKind}{a b:Int}(h:a=b):Le (.int k a) (.int k b):=by grind[Le.refl]
theorem qZ{k:IntKind}{a b:Int}(h:b=a):Le (.int k a) (.int k b):=by grind[Le.refl]
theorem Le.bool{a b:Bool}(h:a=b):Le (.bool a) (.bool b):=by grind[Le.refl]
theorem Le.str{a b:lar}(h:a=b):Le (.str a) (.str b):=by grind[Le.refl]
theorem Le.lsn{xs:laa}(h:xs=[]):Le (.ls xs) .nils:=by grind[Le.nils]
theorem Le.lsp{xs ys:laa}{t:Bool}(h:xs=ys)(h0:az ys=0):Le (.ls xs) (.ps ys t):=by grind[Le.ps]
theorem AC{sz b n:Nat}{z:AV}{h:AHeap}(hs:small n b=true):fJ (pt sz b z h (some (.int .i64 (.ofNat n))) (some (.int .i64 (.ofNat n))))=some (.val (.slice h.n 0 0 n (some n)) (h.push (.row sz false 0 (List.replicate n z)))):=by grind[Nat.ble_eq_true_of_le,pt,fJ]
theorem Bu{s id ep n sz:Nat}{op:Bool}{cap:lan}{h:AHeap}{xs ys:laa}(hg:h.get id=some (.row sz op ep xs))(hs:Nat.beq s sz=true)(hy:ys.length=n)(hx:xs.length=n)(hf:dL sz ys=true):
  fJ (vu s h (some (.slice id ep 0 n cap)) (some (.ls ys)))=some (.val (.int .i64 (.ofNat n)) (h.put id (.row sz op ep ys))):=by
 have e1:ys.take n=ys:=za (by omega);have e2:bN xs 0 ys=ys:=by grind[bN]
 simp_all[vu,kh,kI,N1,fJ]
theorem ZI{sz b id ep len:Nat}{op:Bool}{h:AHeap}{xs new xs':laa}{x:AV}(hg:h.get id=some (.row sz op ep xs))(hx:kh h x=some new)(hf:dL sz new=true)(hne:new≠[])(hl:len+new.length<=xs.length)(hw:bN xs len new=xs')(hs:small (len+new.length) b=true):
  fJ (dx sz b h (some (.slice id ep 0 len none)) (some x))=some (.val (.slice id ep 0 (len+new.length) none) (h.put id (.row sz op ep xs'))):=by
 cases new with
 |nil=>simp_all
 |cons y ys=>simp_all[tZ,dx,ge,gE,fJ]
theorem TN{α:Type}{f:α->AV}{l:List α}{sz b id ep off len:Nat}{cap:lan}{h:AHeap}(hp:l.length=0):
  fJ (dx sz b h (some (.slice id ep off len cap)) (some (.ls (l.map f))))=some (.val (.slice id ep off len cap) h):=by
 cases l with
 |nil=>rfl
 |cons a r=>grind
theorem P0{α:Type}{f:α->AV}{l:List α}{sz b:Nat}{xs:laa}{t:Bool}{h:AHeap}(hp:l.length=0):
  fJ (dx sz b h (some (.ps xs t)) (some (.ls (l.map f))))=some (.val (.ps xs t) h):=by
 cases l with
 |nil=>rfl
 |cons a r=>grind
theorem Oz{α:Type}{f g:α->AV}(e:∀x,f x=g x){l:List α}{k:Nat}{w:α}(h:k<l.length):bN (l.map f) k [g w]=(l.set k w).map f:=by
 unfold bN;rw[List.map_set,e w,LG];have h':k<(l.map f).length:=by simp_all
 rw[iQ,List.set_eq_take_append_cons_drop,if_pos h'];rfl
theorem Rn{α:Type}{f:α->AV}{l:List α}{z:AV}{i:Nat}(h:i=l.length):jI (l.map f++[z]) i=some z:=by rw[po,ot (by simp_all),cw,show i-l.length=0 by omega];rfl
theorem QS{α:Type}{f g:α->AV}(e:∀x,f x=g x){l:List α}{z:AV}{i:Nat}{w:α}(h:i=l.length):(l.map f++[z]).set i (g w)=(l++[w]).map f:=by simp_all
theorem Yd{u v:AV}(h:Le u v)(hu:u.cells=[u])(hv:v.cells=[v]):∀(j:Nat)(y:AV),u.cells[j]?=some y->∃x:AV,v.cells[j]?=some x/\Le y x:=by grind
theorem ch{xs ys:laa}(h:xs=ys):Le (.ls xs) (.ls ys):=by grind[Le.refl]
theorem bJ{us vs:laa}(h:Les us vs)(hs:us.all dq=true):Le (.agg us) (.agg vs):=Le.agg h λu hu=>mf.1 hs u hu
theorem Ym:Nat.mx 0 0=0:=rfl
theorem aX{α:Type}{f:α->AV}(h:∀x,(f x).top=0):∀(l:List α),az (l.map f)=0
 |[]=>rfl
 |x::r=>by simp only[eT,az,h x,aX h r,Ym]
theorem ap{a b:Int}(h:aE a b=true):a<b:=by grind[wB]
theorem aI{a b:Int}(h:aE a b=false):b<=a:=by grind[wB]
theorem mh{a b:Int}(h:a<b):aE a b=true:=by grind[wB]
theorem jC{a b:Int}(h:b<=a):aE a b=false:=by grind[wB]
theorem sU{a b:Int}:ae a b=decide (a=b):=by
 cases a with
 |ofNat a=>cases b with
  |ofNat b=>grind[ae,aD]
  |negSucc b=>exact(decide_eq_false (λh=>by grind)).symm
 |negSucc a=>cases b with
  |ofNat b=>exact(decide_eq_false (λh=>by grind)).symm
  |negSucc b=>grind[ae,aD]
theorem jE{a b:Int}(h:ae a b=true):a=b:=by grind[sU]
theorem NG{a b:Int}(h:ae a b=false):a≠b:=by grind[sU]
theorem yB{x:Int}(h1: -(2^63)<=x)(h2:x<2^63):IntKind.i64.wrap x=x:=by grind[IntKind.wrap,IntKind.bits,IntKind.signed]
theorem Le.wr{x:Int}(h: -(2^63)<=x/\x<2^63):Le (.int .i64 x) (.int .i64 (IntKind.i64.wrap x)):=by grind[yB,Le.refl]
def gD{α:Type}[Inhabited α](l:List α)(i:Nat):α:=l.getD i default
theorem bw{α:Type}[Inhabited α]{l:List α}{i:Nat}(enc:α->AV)(h:i<l.length):jI (l.map enc) i=some (enc (gD l i)):=by grind[po,gD]
theorem Ai{α:Type}[Inhabited α]{l:List α}{i:Nat}(h:i<l.length):jI l i=some (gD l i):=by grind[po,gD]
def oW(b:UInt8):AV:=.int .u8 (.ofNat b.toNat)
theorem XO(b:UInt8):(oW b).top=0:=rfl
theorem WD{s:lar}{H:AHeap}(h:s.length<=2^40):bp H (kN (some (.str s)))=some (.val (.ps (s.map oW) false) H):=by
 have e1:Nat.ble s.length (2^40)=true:=tZ h;simp only[kN,e1,bp];rfl
theorem YU{s:lar}{n:Nat}{k:IntKind}{H:AHeap}(h2:n<=s.length):bp H (lF (some (.str s)) none (some (.int k (.ofNat n))))=some (.val (.str (s.take n)) H):=by grind[Nat.ble_eq_true_of_le,lF,jk,gX,bp]
theorem YY{s:lar}{l:Nat}{k:IntKind}{H:AHeap}(h1:l<=s.length):bp H (lF (some (.str s)) (some (.int k (.ofNat l))) none)=some (.val (.str (s.drop l)) H):=by simp_all[tZ,lF,jk,gX,bp]
theorem eP{α:Type}[Inhabited α]{l:List α}{i:Nat}(h:i<l.length):gD l i∈l:=by grind[gD]
theorem CY{x:Int}(h:0<=x):Le (.int .i64 (Int.ofNat x.toNat)) (.int .i64 x):=by grind[Le.refl]
theorem Le.len{α:Type}{f:α->AV}{l:List α}:Le (.int .i64 (Int.ofNat l.length)) (.int .i64 (Int.ofNat (l.map f).length)):=by grind[Le.refl]
theorem bS:(∀b:Bool,(b&&true)=b)/\(∀b:Bool,(true&&b)=b)/\(∀b:Bool,(b&&false)=false)/\(∀b:Bool,(false&&b)=false)/\(∀b:Bool,(b||true)=true)/\(∀b:Bool,(true||b)=true)/\
  (∀b:Bool,(b||false)=b)/\(∀b:Bool,(false||b)=b)/\(!true)=false/\(!false)=true:=by grind
theorem aS{α:Type}{p:α->Bool}:List.all [] p=true/\∀x r,List.all (x::r) p=(p x&&List.all r p):=⟨rfl,λ_ _=>rfl⟩
section
variable{α A:Type}{l r t:List α}{i:Nat}{w:α}{enc:α->AV}{J:List α->A->Prop}{a:A}
theorem Wg(h:l.drop i=w::t):i<l.length:=by
 have:=congrArg List.length h;grind
theorem dm(h:l.drop i=r)(hr:r=[]):aE (Int.ofNat i) (Int.ofNat l.length)=false:=by
 subst hr;refine Vr ?_;simp_all
theorem dI(h:l.drop i=r)(hr:r=w::t):aE (Int.ofNat i) (Int.ofNat l.length)=true:=by grind[Yt,Wg]
theorem dl(h:l.drop i=r)(hr:r=w::t):jI (l.map enc) i=some (enc w):=by
 subst hr;rw[M9,po];have:(l.drop i)[0]?=some w:=by simp_all
 grind
theorem aH(h:l.drop i=r)(hr:r=w::t):l.drop (i+1)=t:=by
 subst hr;have:=congrArg (List.drop 1) h;grind[List.drop_drop]
theorem cC(hr:r=w::t):t.length<r.length:=by simp_all
theorem eM(hr:r=[])(h:J r a):J [] a:=hr▸h
theorem bT(hr:r=w::t)(h:J r a):J (w::t) a:=hr▸h
theorem gC(h:l.drop i=r)(hr:r=w::t):t.length+1<=l.length:=by
 subst hr;have:=congrArg List.length h;grind
theorem aG(h:l.drop i=r)(hr:r=w::t):w∈l:=by grind[List.mem_of_mem_drop]
end
section
def bj{V:Type}(f:V->AV):List (Int×V)->Nat->laq
 |[],_=>[]
 |(k,v)::r,i=>⟨.int .i64 k,f v,i⟩::bj f r (i+1)
def g0{V:Type}(k:Int):List (Int×V)->Option V
 |[]=>none
 |(j,v)::r=>match ae k j with|true=>some v|false=>g0 k r
def gk{V:Type}(k:Int)(v:V):List (Int×V)->List (Int×V)
 |[]=>[(k,v)]
 |(j,u)::r=>match ae k j with|true=>(j,v)::r|false=>(j,u)::gk k v r
variable{V:Type}{f:V->AV}
theorem uQ(k:Int):∀(l:List (Int×V))(i:Nat),bf false 1 [(0,1)] (.int .i64 k) (bj f l i) i=some (match g0 k l with|none=>none|some v=>some (i+(l.takeWhile λp=>!(ae k p.1)).length,⟨.int .i64 k,f v,i+(l.takeWhile λp=>!(ae k p.1)).length⟩))
 |[],i=>rfl
 | (j,v)::r,i=>by
  simp only[bj,bf,rx,K5,lX,g0];cases h:ae k j with
  |true=>grind[jE,nl,List.takeWhile]
  |false=>
   simp only[nl,uQ k r (i+1),List.takeWhile,h,CG];grind
theorem AH(z:lae)(k:Int)(l:List (Int×V)):fW z false (bf false 1 [(0,1)] (.int .i64 k) (bj f l 0) 0)=match g0 k l with|none=>z|some v=>some (f v):=by
 rw[uQ];cases g0 k l with
 |none=>cases z<;>rfl
 |some v=>rfl
theorem Fc(l r:List (Int×V)):∀(i:Nat),bj f (l++r) i=bj f l i++bj f r (i+l.length):=by
 induction l with
 |nil=>intro i;rfl
 |cons x l ih=>
  intro i;obtain⟨j,v⟩:=x;simp only[zh,bj,ih,dw,CF,true_and,List.append_cancel_left_eq];grind
theorem wq{k:Int}{v:V}:∀{l:List (Int×V)},g0 k l=none->gk k v l=l++[(k,v)]
 |[],_=>rfl
 |(j,u)::r,h=>by
  simp only[g0]at h;cases q:ae k j with
  |true=>grind
  |false=>rw[q]at h;simp only[gk,q,zh,wq h]
theorem GF{k:Int}{v u:V}:∀{l:List (Int×V)},g0 k l=some u->(gk k v l).length=l.length
 |(j,w)::r,h=>by
  simp only[g0]at h;cases q:ae k j with
  |true=>grind[gk]
  |false=>rw[q]at h;simp only[gk,q,dw,GF h]
theorem DR{k:Int}{v u:V}:∀{l:List (Int×V)}(i:Nat),g0 k l=some u->
  (bj f l i).set (l.takeWhile λp=>!(ae k p.1)).length ⟨.int .i64 k,f v,i+(l.takeWhile λp=>!(ae k p.1)).length⟩=bj f (gk k v l) i
 | (j,w)::r,i,h=>by
  simp only[g0]at h;cases q:ae k j with
  |true=>grind[jE,bj,gk,List.takeWhile]
  |false=>
   rw[q]at h;simp only[bj,gk,List.takeWhile,q,CG,dw,List.set_cons_succ,CF,true_and];rw[<-DR (i+1) h];congr 2;all_goals (first|rfl|omega)
theorem C1(k:Int)(v:V)(l:List (Int×V)):qL (bj f l 0) l.length (.int .i64 k) (f v) (bf false 1 [(0,1)] (.int .i64 k) (bj f l 0) 0)=some (bj f (gk k v l) 0,(gk k v l).length):=by
 rw[uQ];cases h:g0 k l with
 |none=>grind[qL,wq,Fc,bj]
 |some u=>
  have:=DR (f:=f) (v:=v) 0 h;grind[qL,lp,kY,lX,be,GF]
theorem ay(hf:∀v,(f v).top=0):∀(l:List (Int×V))(i:Nat),ce (bj f l i)=0
 |[],_=>rfl
 |(j,v)::r,i=>by simp only[bj,ce,AV.top,hf v,ay hf r,Ym]
end
theorem Qt{sz ep n:Nat}{op:Bool}{xs:laa}(h:az xs=0):Nat.ble (AObj.row sz op ep xs).top n=true:=by simp_all[AObj.top]
theorem YX{c n:Nat}{es:laq}(h:ce es=0):Nat.ble (AObj.map es c).top n=true:=by simp_all[AObj.top]
theorem ki{α:Type}{f:α->AV}{l:List α}{i:Nat}{w:α}:(l.map f).set i (f w)=(l.set i w).map f:=by simp_all
theorem EF{α:Type}{f g:α->AV}(e:∀x,f x=g x){l:List α}{i:Nat}{w:α}:(l.map f).set i (g w)=(l.set i w).map f:=by simp_all
theorem Sd(n:Nat):(Int.ofNat n).fdiv (2^min 1 IntKind.u64.bits)=Int.ofNat (n/2):=by
 have e:(2:Int)^min 1 IntKind.u64.bits=2:=rfl;grind
theorem gN{α:Type}{f:α->AV}{sz:Nat}(h:∀x,(Nat.beq (f x).cells.length sz&&fj (f x))=true):∀(l:List α),dL sz (l.map f)=true
 |[]=>rfl
 |x::r=>by rw[eT,dL,h,gN h r];rfl
theorem cO{α:Type}{f:α->AV}{l ws:List α}:l.map f++ws.map f=(l++ws).map f:=by simp
theorem xh{α:Type}{f:α->AV}{l:List α}{n:Nat}:((l.map f).drop 0).take n=(l.take n).map f:=by simp_all
theorem L5{α:Type}{f:α->AV}{l:List α}{n:Nat}(h:l.length=n):((l.map f).drop 0).take n=l.map f:=by grind[List.length_map]
theorem UU{xs ys:laa}{t:Bool}(h:ys=xs):Le (.ps ys false) (.ps xs t):=h▸Le.loose xs t
theorem Xn{xs:laa}{n:Nat}(h:xs.length=n):(xs.drop 0).take n=xs:=by grind
theorem y8{α:Type}{f g:α->AV}{l ws:List α}(e:∀x,f x=g x):l.map f++ws.map g=(l++ws).map f:=by simp_all
theorem PX{α:Type}{f g:α->AV}{ws:List α}(e:∀x,f x=g x):ws.map g=ws.map f:=by simp_all
theorem r9{α:Type}[Inhabited α]{l:List α}{i:Nat}(f:α->AV){g:α->AV}(e:∀x,f x=g x)(h:i<l.length):jI (l.map f) i=some (g (gD l i)):=by grind[bw]
theorem BX{α:Type}{f:α->AV}{s:Nat}(h:∀x,Nat.beq (f x).cells.length s=true):∀(l:List α),pE s (l.map f)=true
 |[]=>rfl
 |x::_=>h x
theorem JG{α:Type}{f:α->AV}{l:List α}{h k:Nat}:((l.map f).take h).drop k=((l.take h).drop k).map f:=by simp_all
theorem aaf{α:Type}{f:α->AV}{l:List α}{k:Nat}:((l.map f).take (l.map f).length).drop k=(l.drop k).map f:=by rw[List.take_length,List.map_drop]
theorem aae{α:Type}{f:α->AV}{l:List α}{h:Nat}:((l.map f).take h).drop 0=(l.take h).map f:=by simp_all
theorem ic{a b:Bool}(ha:a=true)(hb:b=true):(a&&b)=true:=by simp_all
theorem cY{x:Int}{n:Nat}(h:x=Int.ofNat n/\n<2^62):Le (.int .i64 (Int.ofNat n)) (.int .i64 (IntKind.i64.wrap x)):=by grind[yB,Le.refl]
theorem Jv{x:Int}{n:Nat}(h:x=Int.ofNat n/\n<2^62):Le (.int .u64 (Int.ofNat n)) (.int .u64 (IntKind.u64.wrap x)):=by grind[IntKind.wrap,IntKind.bits,Le.refl]
abbrev bZ:=lar
abbrev laj:=List bZ
structure PWord where
 text:bZ
 act:Int
 item:Int
 at_:Int
 deriving Inhabited
abbrev lag:=List PWord
inductive TUnit where
 |mk (act item n kind:Int) (label:bZ) (head words:lag) (kids:List TUnit)
 deriving Inhabited
abbrev lad:=List TUnit
namespace TUnit
def act:TUnit->Int|⟨a,_,_,_,_,_,_,_⟩=>a
def item:TUnit->Int|⟨_,a,_,_,_,_,_,_⟩=>a
def n:TUnit->Int|⟨_,_,a,_,_,_,_,_⟩=>a
def kind:TUnit->Int|⟨_,_,_,a,_,_,_,_⟩=>a
def label:TUnit->bZ|⟨_,_,_,_,a,_,_,_⟩=>a
def head:TUnit->lag|⟨_,_,_,_,_,a,_,_⟩=>a
def words:TUnit->lag|⟨_,_,_,_,_,_,a,_⟩=>a
def kids:TUnit->lad|⟨_,_,_,_,_,_,_,a⟩=>a
end TUnit
structure PStep where
 kind:Int
 label:bZ
 deriving Inhabited
abbrev lap:=List PStep
structure PStart where
 kind:Int
 day:Int
 event:bZ
 deriving Inhabited
inductive PItem where
 |mk (kind:Int) (at_ to:lap) (where_ nth_:Int) (unit:TUnit) (old new:laj) (label for_:bZ) (start:PStart) (act item day:Int) (event:bZ) (by_:List PItem)
 deriving Inhabited
abbrev lat:=List PItem
namespace PItem
def kind:PItem->Int|⟨a,_,_,_,_,_,_,_,_,_,_,_,_,_,_,_⟩=>a
def at_:PItem->lap|⟨_,a,_,_,_,_,_,_,_,_,_,_,_,_,_,_⟩=>a
def to:PItem->lap|⟨_,_,a,_,_,_,_,_,_,_,_,_,_,_,_,_⟩=>a
def where_:PItem->Int|⟨_,_,_,a,_,_,_,_,_,_,_,_,_,_,_,_⟩=>a
def nth_:PItem->Int|⟨_,_,_,_,a,_,_,_,_,_,_,_,_,_,_,_⟩=>a
def unit:PItem->TUnit|⟨_,_,_,_,_,a,_,_,_,_,_,_,_,_,_,_⟩=>a
def old:PItem->laj|⟨_,_,_,_,_,_,a,_,_,_,_,_,_,_,_,_⟩=>a
def new:PItem->laj|⟨_,_,_,_,_,_,_,a,_,_,_,_,_,_,_,_⟩=>a
def label:PItem->bZ|⟨_,_,_,_,_,_,_,_,a,_,_,_,_,_,_,_⟩=>a
def for_:PItem->bZ|⟨_,_,_,_,_,_,_,_,_,a,_,_,_,_,_,_⟩=>a
def start:PItem->PStart|⟨_,_,_,_,_,_,_,_,_,_,a,_,_,_,_,_⟩=>a
def act:PItem->Int|⟨_,_,_,_,_,_,_,_,_,_,_,a,_,_,_,_⟩=>a
def item:PItem->Int|⟨_,_,_,_,_,_,_,_,_,_,_,_,a,_,_,_⟩=>a
def day:PItem->Int|⟨_,_,_,_,_,_,_,_,_,_,_,_,_,a,_,_⟩=>a
def event:PItem->bZ|⟨_,_,_,_,_,_,_,_,_,_,_,_,_,_,a,_⟩=>a
def by_:PItem->lat|⟨_,_,_,_,_,_,_,_,_,_,_,_,_,_,_,a⟩=>a
end PItem
structure PAct where
 number:Int
 title:bZ
 day:Int
 start:PStart
 items:lat
 deriving Inhabited
abbrev lah:=List PAct
structure PGaz where
 number:Int
 day:Int
 prior:bZ
 acts:lah
 deriving Inhabited
abbrev lal:=List PGaz
structure PDeed where
 act:Int
 item:Int
 day:Int
 it:PItem
 deriving Inhabited
abbrev lab:=List PDeed
structure PSpan where
 from_:Int
 to:Int
 deriving Inhabited
abbrev lac:=List PSpan
structure PFail where
 act:Int
 item:Int
 why:Int
 deriving Inhabited
noncomputable section
def nD(s:bZ):AV:=.str s
def af(n:Int):AV:=.int .i64 n
def aQ(w:PWord):AV:=.agg [.str w.text,.int .i64 w.act,.int .i64 w.item,.int .i64 w.at_]
mutual
def BF:TUnit->laa
 |⟨a,i,n,k,l,h,w,ks⟩=>[.int .i64 a,.int .i64 i,.int .i64 n,.int .i64 k,.str l,.ls (h.map aQ),.ls (w.map aQ),.ls (Ia ks)]
def Ia:lad->laa
 |[]=>[]
 |u::r=>.agg (BF u)::Ia r
end
def aU(u:TUnit):AV:=.agg (BF u)
def aq(s:PStep):AV:=.agg [.int .i64 s.kind,.str s.label]
def BG(s:PStart):laa:=[.int .i64 s.kind,.int .i64 s.day,.str s.event]
def ax(s:PStart):AV:=.agg (BG s)
mutual
def Lv:PItem->laa
 |⟨k,a,t,w,nn,u,o,n,lb,fo,st,ac,it,dy,ev,by_⟩=>[.int .i64 k,.ls (a.map aq),.ls (t.map aq),.int .i64 w,.int .i64 nn]++BF u++[.ls (o.map nD),.ls (n.map nD),.str lb,.str fo]++BG st++[.int .i64 ac,.int .i64 it,.int .i64 dy,.str ev,.ls (Ie by_)]
def Ie:lat->laa
 |[]=>[]
 |u::r=>.agg (Lv u)::Ie r
end
def PB(x:PItem):AV:=.agg (Lv x)
def cU(u:TUnit):laa:=[.int .i64 u.act,.int .i64 u.item,.int .i64 u.n,.int .i64 u.kind,.str u.label,.ls (u.head.map aQ),.ls (u.words.map aQ),.ls (u.kids.map aU)]
def eU(u:TUnit):AV:=.agg (cU u)
def cI(x:PItem):laa:=[.int .i64 x.kind,.ls (x.at_.map aq),.ls (x.to.map aq),.int .i64 x.where_,.int .i64 x.nth_,
 .int .i64 x.unit.act,.int .i64 x.unit.item,.int .i64 x.unit.n,.int .i64 x.unit.kind,.str x.unit.label,.ls (x.unit.head.map aQ),.ls (x.unit.words.map aQ),.ls (x.unit.kids.map aU),
 .ls (x.old.map nD),.ls (x.new.map nD),.str x.label,.str x.for_,.int .i64 x.start.kind,.int .i64 x.start.day,.str x.start.event,.int .i64 x.act,.int .i64 x.item,.int .i64 x.day,.str x.event,.ls (x.by_.map PB)]
def eI(x:PItem):AV:=.agg (cI x)
def aa(a:PAct):AV:=.agg [.int .i64 a.number,.str a.title,.int .i64 a.day,.int .i64 a.start.kind,.int .i64 a.start.day,.str a.start.event,.ls (a.items.map PB)]
def am(g:PGaz):AV:=.agg [.int .i64 g.number,.int .i64 g.day,.str g.prior,.ls (g.acts.map aa)]
def aV(d:PDeed):AV:=.agg (.int .i64 d.act::.int .i64 d.item::.int .i64 d.day::cI d.it)
def aJ(s:PSpan):AV:=.agg [.int .i64 s.from_,.int .i64 s.to]
def eQ(s:PFail):AV:=.agg [.int .i64 s.act,.int .i64 s.item,.int .i64 s.why]
end
theorem Bh:∀(l:lad),Ia l=l.map aU
 |[]=>by rw[Ia];rfl
 |u::r=>by rw[Ia,Bh r];rfl
theorem Ic:∀(l:lat),Ie l=l.map PB
 |[]=>by rw[Ie];rfl
 |u::r=>by rw[Ie,Ic r];rfl
theorem bQ(u:TUnit):aU u=eU u:=by
 obtain⟨a,i,n,k,l,h,w,ks⟩:=u;rw[aU,BF,Bh];rfl
theorem eG(x:PItem):PB x=eI x:=by
 obtain⟨k,a,t,w,nn,⟨ua,ui,un,uk,ul,uh,uw,uks⟩,o,n,lb,fo,st,ac,it,dy,ev,by_⟩:=x;rw[PB,Lv,BF,Ic,Bh];rfl
theorem i9(w:PWord):(aQ w).top=0:=rfl
theorem K9(w:bZ):(nD w).top=0:=rfl
theorem LZ(w:Int):(af w).top=0:=rfl
theorem Ib(w:PStep):(aq w).top=0:=rfl
theorem XN(w:PSpan):(aJ w).top=0:=rfl
theorem gd(w:PFail):(eQ w).top=0:=rfl
theorem acx(u:TUnit):(eU u).top=0:=rfl
theorem acy(u:PItem):(eI u).top=0:=rfl
theorem gO(u:TUnit):(aU u).top=0:=by rw[bQ];rfl
theorem Ig(u:PItem):(PB u).top=0:=by rw[eG];rfl
theorem LW(w:PAct):(aa w).top=0:=rfl
theorem LX(w:PGaz):(am w).top=0:=rfl
theorem yZ(w:PDeed):(aV w).top=0:=rfl
mutual
def tT:TUnit->Prop
 |⟨_,_,_,_,_,h,w,kids⟩=>h.length<2^60/\w.length<2^60/\kids.length<2^60/\H8 kids
def H8:lad->Prop
 |[]=>True
 |u::r=>tT u/\H8 r
end
theorem DF:∀{l:lad},H8 l↔∀u,u∈l->tT u
 |[]=>by simp[H8]
 |v::r=>by simp[H8,DF (l:=r)]
mutual
def nP:PItem->Prop
 |⟨_,a,t,_,_,u,o,n,_,_,_,_,_,_,_,by_⟩=>a.length<2^60/\t.length<2^60/\o.length<2^60/\n.length<2^60/\by_.length<2^60/\tT u/\H9 by_
def H9:lat->Prop
 |[]=>True
 |u::r=>nP u/\H9 r
end
theorem DG:∀{l:lat},H9 l↔∀u,u∈l->nP u
 |[]=>by simp[H9]
 |v::r=>by simp[H9,DG (l:=r)]
theorem re{u:TUnit}:tT u↔u.head.length<2^60/\u.words.length<2^60/\u.kids.length<2^60/\∀k,k∈u.kids->tT k:=by
 obtain⟨a,i,n,k,l,h,w,ks⟩:=u;rw[tT,DF];exact Iff.rfl
theorem rf{x:PItem}:nP x↔x.at_.length<2^60/\x.to.length<2^60/\x.old.length<2^60/\x.new.length<2^60/\x.by_.length<2^60/\tT x.unit/\∀k,k∈x.by_->nP k:=by
 obtain⟨k,a,t,w,nn,u,o,n,lb,fo,st,ac,it,dy,ev,by_⟩:=x;rw[nP,DG];exact Iff.rfl
def Pd(a:PAct):Prop:=a.items.length<2^60/\∀x,x∈a.items->nP x
def ZX(g:PGaz):Prop:=g.acts.length<2^60/\∀a,a∈g.acts->Pd a
def qY(gs:lal):Prop:=gs.length<2^60/\∀g,g∈gs->ZX g
theorem F3{u k:TUnit}(h:k∈u.kids):SizeOf.sizeOf k<SizeOf.sizeOf u:=by
 obtain⟨a,i,n,kk,l,hh,w,ks⟩:=u;have h:k∈ks:=h;have:=List.sizeOf_lt_of_mem h;grind
theorem Jk{u k:PItem}(h:k∈u.by_):SizeOf.sizeOf k<SizeOf.sizeOf u:=by
 obtain⟨kd,a,t,w,nn,uu,o,n,lb,fo,st,ac,it,dy,ev,by_⟩:=u;have h:k∈by_:=h;have:=List.sizeOf_lt_of_mem h;grind
theorem TUnit.ind{p:TUnit->Prop}(h:∀u,(∀k,k∈u.kids->p k)->p u)(u:TUnit):p u:=h u λk hk=>TUnit.ind h k
termination_by SizeOf.sizeOf u
decreasing_by exact F3 hk
theorem PItem.ind{p:PItem->Prop}(h:∀u,(∀k,k∈u.by_->p k)->p u)(u:PItem):p u:=h u λk hk=>PItem.ind h k
termination_by SizeOf.sizeOf u
decreasing_by exact Jk hk
structure KeyOf(K:Type)(ag:Bool)(sz:Nat)(lv:List (Nat×Nat))(kenc:K->AV)(keq:K->K->Bool):Prop where
 eq:∀a b,rx ag sz lv (kenc a) (kenc b)=some (keq a b)
 t:∀a b,keq a b=true->a=b
 refl:∀a,keq a a=true
 same:∀a,lp (kenc a) (kenc a)=true
 top:∀a,(kenc a).top=0
section
variable{K V:Type}{ag:Bool}{sz:Nat}{lv:List (Nat×Nat)}{kenc:K->AV}{keq:K->K->Bool}{f:V->AV}
noncomputable def bq(kenc:K->AV)(f:V->AV):List (K×V)->Nat->laq
 |[],_=>[]
 |(k,v)::r,i=>⟨kenc k,f v,i⟩::bq kenc f r (i+1)
def mE(keq:K->K->Bool)(k:K):List (K×V)->Option V
 |[]=>none
 |(j,v)::r=>match keq k j with|true=>some v|false=>mE keq k r
def cQ(keq:K->K->Bool)(k:K)(v:V):List (K×V)->List (K×V)
 |[]=>[(k,v)]
 |(j,u)::r=>match keq k j with|true=>(j,v)::r|false=>(j,u)::cQ keq k v r
theorem uZ(hk:KeyOf K ag sz lv kenc keq)(k:K):∀(l:List (K×V))(i:Nat),bf ag sz lv (kenc k) (bq kenc f l i) i=some (match mE keq k l with|none=>none|some v=>some (i+(l.takeWhile λp=>!(keq k p.1)).length,⟨kenc k,f v,i+(l.takeWhile λp=>!(keq k p.1)).length⟩))
 |[],i=>rfl
 | (j,v)::r,i=>by
  simp only[bq,bf,hk.eq,mE];cases h:keq k j with
  |true=>grind[nl,List.takeWhile,cases KeyOf]
  |false=>
   simp only[nl,uZ hk k r (i+1),List.takeWhile,h,CG];grind
theorem AL(hk:KeyOf K ag sz lv kenc keq)(z:lae)(ok:Bool)(k:K)(l:List (K×V)):fW z ok (bf ag sz lv (kenc k) (bq kenc f l 0) 0)=match mE keq k l with|none=>oV ok z false|some v=>oV ok (some (f v)) true:=by
 rw[uZ hk];cases mE keq k l with
 |none=>rfl
 |some v=>rfl
theorem Fe(l r:List (K×V)):∀(i:Nat),bq kenc f (l++r) i=bq kenc f l i++bq kenc f r (i+l.length):=by
 induction l with
 |nil=>intro i;rfl
 |cons x l ih=>
  intro i;obtain⟨j,v⟩:=x;simp only[zh,bq,ih,dw,CF,true_and,List.append_cancel_left_eq];grind
theorem DZ{k:K}{v:V}:∀{l:List (K×V)},mE keq k l=none->cQ keq k v l=l++[(k,v)]
 |[],_=>rfl
 |(j,u)::r,h=>by
  simp only[mE]at h;cases q:keq k j with
  |true=>grind
  |false=>rw[q]at h;simp only[cQ,q,zh,DZ h]
theorem GH{k:K}{v u:V}:∀{l:List (K×V)},mE keq k l=some u->(cQ keq k v l).length=l.length
 |(j,w)::r,h=>by
  simp only[mE]at h;cases q:keq k j with
  |true=>grind[cQ]
  |false=>rw[q]at h;simp only[cQ,q,dw,GH h]
theorem DS(hk:KeyOf K ag sz lv kenc keq){k:K}{v u:V}:∀{l:List (K×V)}(i:Nat),mE keq k l=some u->
  (bq kenc f l i).set (l.takeWhile λp=>!(keq k p.1)).length ⟨kenc k,f v,i+(l.takeWhile λp=>!(keq k p.1)).length⟩=bq kenc f (cQ keq k v l) i
 | (j,w)::r,i,h=>by
  simp only[mE]at h;cases q:keq k j with
  |true=>grind[bq,cQ,List.takeWhile,cases KeyOf]
  |false=>
   rw[q]at h;simp only[bq,cQ,List.takeWhile,q,CG,dw,List.set_cons_succ,CF,true_and];rw[<-DS hk (i+1) h];congr 2;all_goals (first|rfl|omega)
theorem C2(hk:KeyOf K ag sz lv kenc keq)(k:K)(v:V)(l:List (K×V)):qL (bq kenc f l 0) l.length (kenc k) (f v) (bf ag sz lv (kenc k) (bq kenc f l 0) 0)=some (bq kenc f (cQ keq k v l) 0,(cQ keq k v l).length):=by
 rw[uZ hk];grind[qL,DZ,Fe,bq,DS,GH,cases KeyOf]
theorem cj(hk:KeyOf K ag sz lv kenc keq)(hf:∀v,(f v).top=0):∀(l:List (K×V))(i:Nat),ce (bq kenc f l i)=0
 |[],_=>rfl
 |(j,v)::r,i=>by simp only[bq,ce,hk.top,hf v,cj hk hf r,Ym]
variable[Inhabited K][Inhabited V]{l:List (K×V)}{seen:laf}
end
section
variable{V:Type}{f:V->AV}[Inhabited V]{l:List (Int×V)}{seen:laf}
end
noncomputable def l0(p:Int×Int):AV:=.agg [.int .i64 p.1,.int .i64 p.2]
def pM(a b:Int×Int):Bool:=ae a.1 b.1&&ae a.2 b.2
theorem jy:KeyOf (Int×Int) true 2 [(0,1),(1,1)] l0 pM where
 eq a b:=by
  show yg [.int .i64 a.1,.int .i64 a.2] [.int .i64 b.1,.int .i64 b.2] [(0,1),(1,1)]=_
  simp only[yg,jI,Uw,K5,lX,pM];cases h1:ae a.1 b.1<;>cases h2:ae a.2 b.2<;>rfl
 t a b h:=by
  simp only[pM,ba]at h;grind[jE]
 refl a:=by simp[pM,be]
 same a:=by simp[l0,lp,jT,kY,lX,be]
 top a:=rfl
end Go.Ev
namespace Go.Ev
open Go
section
variable{P:Program}{G:fz}{pl:Pl}{M:dN}{h:AHeap}{w w':World}
theorem TM{x:AV}{vs:Array Value}(hv:VRels pl M [x] vs):∃a,vs=#[a]/\VRel pl M x a:=by
 obtain⟨l⟩:=vs
 match l,hv with
 |[a],hv=>exact⟨a,rfl,hv.at_ 0 x rfl⟩
 |[],hv=>grind[cases VRels]
 |_::_::_,hv=>grind[cases VRels]
theorem B0{x y:AV}{vs:Array Value}(hv:VRels pl M [x,y] vs):∃a b,vs=#[a,b]/\VRel pl M x a/\VRel pl M y b:=by
 obtain⟨l⟩:=vs
 match l,hv with
 |[a,b],hv=>exact⟨a,b,rfl,hv.at_ 0 x rfl,hv.at_ 1 y rfl⟩
 |[],hv=>grind[cases VRels]
 |[_],hv=>grind[cases VRels]
 |_::_::_::_,hv=>grind[cases VRels]
theorem Az{f:Fn}{a:Value}(hv:VRel pl M (.func f [] []) a):a=.func f #[] #[]:=by grind[cases VRel]
theorem rG:VRel pl M (.tuple []) (.tuple #[]):=.tuple rfl λj y h=>by simp_all
end
end Go.Ev
