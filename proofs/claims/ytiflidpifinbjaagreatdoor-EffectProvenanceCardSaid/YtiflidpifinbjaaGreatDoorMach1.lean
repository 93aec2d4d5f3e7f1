/- An abstract machine for runs of the program, proved sound against the model: part 1. No conditions. -/
import GoSem.Dispatch
import GoSem.Core.Machine
import GoSem.Machine.Frame
import Derived.Orders
import Derived.Calls
import Derived.WalkKit
import Derived.Deep.AppendSrc
import Derived.Deep.MidRow
namespace Go.Ev
open Go
abbrev lbg:=Option Dying
abbrev lbf:=Option Addr
abbrev lbe:=Option Value
abbrev lbc:=List Field
abbrev lba:=List Tmp
abbrev laz:=List MemPlace
abbrev lax:=Option Bool
abbrev lau:=Option Tmp
abbrev las:=List Oper
abbrev lar:=List UInt8
abbrev lao:=List Value
abbrev lan:=Option Nat
abbrev lak:=List Int
abbrev laf:=List Nat
abbrev wQ:=@Nat.le_of_ble_eq_true
abbrev tZ:=@Nat.ble_eq_true_of_le
abbrev dO:=@List.mem_cons
abbrev ar:=@Nat.le_refl
abbrev b0:=@Nat.le_trans
abbrev zd:=@Bool.eq_iff_iff
abbrev zc:=@Option.some.injEq
abbrev lE:=@List.getElem?_eq_getElem
abbrev Eh:=@List.getElem_mem
abbrev Qz:=@List.mem_of_mem_drop
abbrev sE:=@List.mem_of_mem_take
abbrev iZ:=@Array.getD_eq_getD_getElem?
abbrev fP:=@List.getElem?_eq_some_iff
abbrev bC:=@List.mem_of_getElem?
abbrev e9:=@Nat.mul_le_mul_right
abbrev kQ:=@Nat.add_mul
abbrev ou:=@List.getElem?_toArray
abbrev iQ:=@List.append_assoc
abbrev ot:=@List.getElem?_append_right
abbrev sC:=@List.getElem?_append_left
abbrev LL:=@List.getElem?_take_of_lt
abbrev Qj:=@List.take_succ_eq_append_getElem
abbrev xk:=@Array.getElem?_modify
abbrev dw:=@List.length_cons
abbrev GU:=@List.mem_iff_getElem?
abbrev lQ:=@List.length_set
abbrev CO:=@List.getElem?_set
abbrev fg:=@Nat.lt_or_ge
abbrev qE:=@Nat.succ_mul
abbrev sB:=@List.eq_nil_of_length_eq_zero
abbrev hJ:=@List.length_nil
abbrev ba:=@Bool.and_eq_true
abbrev zh:=@List.cons_append
abbrev zg:=@Option.getD_some
abbrev gr:=@Bool.false_eq_true
abbrev zf:=@List.any_cons
abbrev qD:=@Bool.and_false
abbrev ze:=@Bool.and_self
abbrev mS:=@List.foldl_cons
abbrev eT:=@List.map_cons
abbrev qK:=@Nat.add_zero
abbrev xj:=@List.nil_append
abbrev om:=@Nat.le_succ
abbrev qC:=@List.getElem?_map
abbrev ie:=@List.mem_append
abbrev GY:=@Array.size_append
abbrev CN:=@List.size_toArray
abbrev eA:=@List.length_append
abbrev qB:=@List.length_pos_iff
abbrev fx:=@Nat.zero_add
abbrev qA:=@List.length_replicate
abbrev iO:=@List.mem_map
abbrev su:=@Array.getElem?_eq_some_iff
abbrev jr:=@List.mem_singleton
abbrev b6:=@Nat.zero_le
abbrev CM:=@List.getElem?_of_mem
abbrev xz:=@Nat.lt_irrefl
abbrev CL:=@List.range'_succ
abbrev LI:=@Option.some.inj
abbrev oh:=@Bool.or_eq_true
abbrev GV:=@Bool.or_eq_false_iff
abbrev mf:=@List.all_eq_true
abbrev qu:=@Nat.not_lt_zero
abbrev uj:=@Nat.le_of_eq
abbrev CI:=@Nat.lt_of_lt_of_le
abbrev di:=@List.mem_cons_of_mem
abbrev sr:=@Prod.mk.injEq
abbrev CH:=@List.getElem?_cons_zero
abbrev zb:=@List.drop_drop
abbrev LH:=@List.take_append_drop
abbrev eu:=@List.append_nil
abbrev xq:=@List.mem_map_of_mem
abbrev cw:=@List.length_map
abbrev qt:=@Nat.beq_refl
abbrev dr:=@List.mem_cons_self
abbrev za:=@List.take_of_length_le
abbrev LG:=@List.length_singleton
abbrev CG:=@Bool.not_false
abbrev CF:=@List.cons.injEq
abbrev GK:=@Array.getElem?_eq_getElem
abbrev GJ:=@Option.map_eq_some_iff
abbrev GW:=@List.getElem_of_mem
abbrev LF:=@List.pairwise_iff_getElem
abbrev iN:=@List.pairwise_cons
abbrev zy:=@Bool.false_and
abbrev xU:=@Bool.or_false
abbrev aT:=@Int.ofNat_eq_natCast
abbrev Qx:=@List.drop_eq_getElem_cons
abbrev CE:=@List.drop_eq_nil_of_le
abbrev so:=@Int.le_refl
abbrev xY:=@Bool.true_and
abbrev ux:=@List.mem_append_left
abbrev qJ:=@List.mem_append_right
abbrev qW:=@Nat.eq_of_beq_eq_true
abbrev mR:=@Nat.lt_of_le_of_lt
abbrev zw:=@List.length_drop
abbrev jj:=@Bool.and_eq_true_iff
abbrev CD:=@List.flatMap_cons
abbrev xV:=@List.mem_filter
abbrev xK:=@List.map_nil
abbrev pU:=@Nat.succ_pos
abbrev mT:=@List.map_append
abbrev Je:=@List.eraseIdx_eq_take_drop_succ
abbrev Ei:=@List.Perm.append_left
abbrev zi:=@List.nodup_append
abbrev Qk:=@List.perm_append_comm
abbrev mq:=@Bool.not_not
abbrev oK:=@Nat.le_of_lt
abbrev aY:=@Eq.refl
abbrev jO:=@List.cons_ne_nil
abbrev tQ:=@List.isEmpty_iff
abbrev qF:=@List.forall_mem_cons
noncomputable section
inductive AV where
 |bool (b:Bool)
 |int (k:IntKind) (n:Int)
 |str (s:lar)
 |nilp
 |ptr (id ep i off:Nat)
 |pptr (xs:List AV) (i off:Nat)
 |nils
 |slice (id ep off len:Nat) (cap:lan)
 |sl0 (id ep len:Nat) (cap:lan)
 |ps (xs:List AV) (tight:Bool)
 |ls (xs:List AV)
 |nilm
 |map (id:Nat)
 |func (fn:Fn) (first captured:List AV)
 |nilf
 |iface (t:TypeId) (v:AV)
 |nili
 |agg (cs:List AV)
 |tuple (vs:List AV)
 deriving Inhabited
abbrev lae:=Option AV
abbrev laa:=List AV
abbrev lbh:=Option laa
abbrev gh:AV:=.tuple []
def AV.cells:AV->laa
 | .agg cs=>cs
 |v=>[v]
structure AEnt where
 key:AV
 val:AV
 born:Nat
 deriving Inhabited
abbrev laq:=List AEnt
inductive AObj where
 |dead
 |row (sz:Nat) (open_:Bool) (ep:Nat) (xs:laa)
 |map (es:laq) (clock:Nat)
 |siter (s:lar) (pos:Nat)
 |miter (m:AV) (clock:Nat) (seen:laf)
 deriving Inhabited
abbrev lav:=Option AObj
abbrev lai:=List AObj
inductive Tr(α:Type) where
 |nil
 |node (l:Tr α) (v:Option α) (r:Tr α)
instance {α:Type}:Inhabited (Tr α):=⟨.nil⟩
def Tr.get{α:Type}(t:Tr α):Nat->Option α:=
 @Tr.rec α (λ_=>Nat->Option α) (λ_=>none)
  (λ_ v _ il ir n=>@Nat.casesOn (λ_=>Option α) n v λm=>@Nat.casesOn (λ_=>Option α) (m%2) (il (m/2)) λ_=>ir (m/2)) t
def Tr.set{α:Type}(d:Nat):Tr α->Nat->α->Tr α:=
 @Nat.rec (λ_=>Tr α->Nat->α->Tr α) (λt _ _=>t)
  (λ_ ih t n x=>@Tr.casesOn α (λ_=>Tr α) t
   (@Nat.casesOn (λ_=>Tr α) n (.node .nil (some x) .nil) λm=>@Nat.casesOn (λ_=>Tr α) (m%2) (.node (ih .nil (m/2) x) none .nil) λ_=>.node .nil none (ih .nil (m/2) x))
   (λl v r=>@Nat.casesOn (λ_=>Tr α) n (.node l (some x) r) λm=>@Nat.casesOn (λ_=>Tr α) (m%2) (.node (ih l (m/2) x) v r) λ_=>.node l v (ih r (m/2) x))) d
structure AHeap where
 n:Nat
 t:Tr AObj
 deriving Inhabited
abbrev lbd:=Option AHeap
def AHeap.get(h:AHeap)(id:Nat):lav:=match Nat.blt id h.n&&Nat.blt id 1000000 with|true=>h.t.get id|false=>none
def AHeap.put(h:AHeap)(id:Nat)(o:AObj):AHeap:=⟨h.n,h.t.set 20 id o⟩
def AHeap.push(h:AHeap)(o:AObj):AHeap:=⟨h.n+1,match Nat.blt h.n 1000000 with|true=>h.t.set 20 h.n o|false=>h.t⟩
def AHeap.cut(h:AHeap)(n:Nat):AHeap:=⟨n,h.t⟩
def AHeap.none:AHeap:=⟨0,.nil⟩
structure Fr where
 n:Nat
 t:Tr AV
 deriving Inhabited
def Fr.get(A:Fr)(i:Nat):lae:=A.t.get i
def Fr.put(A:Fr)(i:Nat)(v:AV):Option Fr:=match Nat.blt i A.n with|true=>some ⟨A.n,A.t.set 16 i v⟩|false=>none
inductive ARes where
 |val (v:AV) (h:AHeap)
 |call (f:FuncId) (args:laa)
abbrev lay:=Option ARes
def j4:Value->lae
 | .bool b=>some (.bool b)
 | .int k n=>some (.int k n)
 | .string s=>some (.str s.data.toList)
 | .pointer none=>some .nilp
 | .slice none n m=>match n,m with
  |0,0=>some .nils
  |_,_=>none
 | .map none=>some .nilm
 | .nilFunc=>some .nilf
 | .nilIface=>some .nili
 | .func fn a b=>match a.toList,b.toList with
  |[],[]=>some (.func fn [] [])
  |_,_=>none
 |_=>none
def pm:lao->lbh
 |[]=>some []
 |c::r=>match j4 c,pm r with
  |some v,some vs=>some (v::vs)
  |_,_=>none
def ofValue:Value->lae
 | .agg cs=>match pm cs.toList with
  |some as=>some (.agg as)
  |none=>none
 | .tuple vs=>match vs.toList with
  |[]=>some (.tuple [])
  |_=>none
 |c=>j4 c
section
variable(P:Program)
def iP(t:TypeId):lae:=match P.info? t with|some i=>(match i.zero with|some z=>ofValue z|none=>none)|none=>none
def dV(t:TypeId):lan:=match P.info? t with|some i=>some i.size|none=>none
def dW(t:TypeId):lax:=match P.underlying t with|some (.struct _)|some (.array _ _)=>some true|some _=>some false|none=>none
def fieldsOf(t:TypeId):Option (Array Field):=match P.underlying t with|some (.struct fs)=>some fs|_=>none
def fU(t:TypeId):Option TypeId:=match P.underlying t with|some (.slice e)=>some e|_=>none
def pB(f:TypeId->Nat->Option (List (Nat×Nat)))(sz off:Nat):lbc->Option (List (Nat×Nat))
 |[]=>some []
 |x::r=>match decide (x.name= "_"),dV P x.type,f x.type (off+x.offset),pB f sz off r with
  |false,some s,some a,some b=>match Nat.ble (x.offset+s) sz with|true=>some (a++b)|false=>none
  |_,_,_,_=>none
def qM:TypeDesc->lan
 | .bool=>some 0
 | .int _=>some 1
 | .string=>some 2
 |_=>none
def eW:Nat->TypeId->Nat->Option (List (Nat×Nat))
 |0,_,_=>none
 | n+1,t,off=>
  match P.underlying t,dV P t with
  |some (.struct fs),some sz=>match P.stoodInHeld t with
   |true=>none
   |false=>pB P (eW n) sz off fs.toList
  |some d,some 1=>match qM d with
   |some k=>some [(off,k)]
   |none=>none
  |_,_=>none
end
def jI{α:Type}:List α->Nat->Option α
 |[],_=>none
 |x::r,n=>match n with|0=>some x|m+1=>jI r m
def uL(ag:Bool)(n:Nat)(cs:laa)(off:Nat):lae:=
 match ag with
 |true=>match Nat.ble (off+n) cs.length with|true=>some (.agg ((cs.drop off).take n))|false=>none
 |false=>jI cs off
def pa(cs:laa)(off:Nat)(new:laa):laa:=cs.take off++new++cs.drop (off+new.length)
def Ac(ag:Bool)(n:Nat)(off:Nat):lae->lae
 |some x=>uL ag n x.cells off
 |none=>none
def AM(ag:Bool)(n:Nat)(h:AHeap):lae->lae
 |some (.ptr id ep i off)=>
  match h.get id with
  |some (.row _ _ ep' xs)=>match Nat.beq ep ep' with|true=>Ac ag n off (jI xs i)|false=>none
  |_=>none
 |some (.pptr xs i off)=>Ac ag n off (jI xs i)
 |_=>none
def uD(old:AV)(off:Nat)(v:AV):lae:=
 match old with
 | .agg cs=>match Nat.ble (off+v.cells.length) cs.length with|true=>some (.agg (pa cs off v.cells))|false=>none
 | .tuple _=>none
 |_=>match off,v with
  |0,.agg _|0,.tuple _=>none
  |0,v=>some v
  |_,_=>none
def fj:AV->Bool
 | .tuple _=>false
 |_=>true
def tq(n:Nat)(h:AHeap):lae->lae->lbd
 | some (.ptr id ep i off),some v=>
  match h.get id with
  | some (.row sz op ep' xs)=>
   match Nat.beq ep ep'&&Nat.beq v.cells.length n&&fj v with
   | true=>match jI xs i with
    |some x=>match uD x off v with
     |some y=>some (h.put id (.row sz op ep' (xs.set i y)))
     |none=>none
    |none=>none
   |false=>none
  |_=>none
 |_,_=>none
def offset (n:Nat):lae->lae
 |some (.ptr id ep i off)=>some (.ptr id ep i (off+n))
 |some (.pptr xs i off)=>some (.pptr xs i (off+n))
 |_=>none
def gX:AV->lan
 | .int _ (.ofNat n)=>some n
 |_=>none
def jk(d:Nat):lae->lan
 |some v=>gX v
 |none=>some d
def oP(n s:Nat)(x ix:lae):lae:=
 match ix with
 |some ix=>match gX ix with
  |some i=>match Nat.blt i n with|true=>offset (i*s) x|false=>none
  |none=>none
 |none=>none
def qS(s:Nat)(h:AHeap)(id ep:Nat):lbh:=
 match h.get id with
 |some (.row sz _ ep' xs)=>match Nat.beq sz s&&Nat.beq ep ep' with|true=>some xs|false=>none
 |_=>none
def jL(s:Nat)(h:AHeap)(x ix:lae):lae:=
 match x,ix with
 |some (.slice id ep off len _),some ix=>match gX ix,qS s h id ep with
  |some i,some _=>match Nat.blt i len with|true=>some (.ptr id ep (off+i) 0)|false=>none
  |_,_=>none
 | some (.ps xs _),some ix=>match gX ix with
  |some i=>match jI xs i with
   |some y=>match Nat.beq y.cells.length s with|true=>some (.pptr xs i 0)|false=>none
   |none=>none
  |none=>none
 |_,_=>none
def lO(s:Nat)(h:AHeap)(x ix:lae):lae:=
 match x with
 |some (.ls xs)=>jL s h (some (.ps xs false)) ix
 |some (.sl0 id ep len c)=>jL s h (some (.slice id ep 0 len c)) ix
 |x=>jL s h x ix
def JZ(n:Nat)(ag:Bool)(s:Nat)(x ix:lae):lae:=
 match x,ix with
 |some (.agg cs),some ix=>match gX ix with
  |some i=>match Nat.blt i n with|true=>uL ag s cs (i*s)|false=>none
  |none=>none
 |_,_=>none
def JQ(x ix:lae):lae:=
 match x,ix with
 |some (.str s),some ix=>match gX ix with
  |some i=>match jI s i with|some b=>some (.int .u8 (.ofNat b.toNat))|none=>none
  |none=>none
 |_,_=>none
def lF(x:lae)(lo hi:lae):lae:=
 match x with
 |some (.str s)=>
  match jk s.length hi,jk 0 lo with
  |some h,some l=>match Nat.ble l h&&Nat.ble h s.length with|true=>some (.str ((s.take h).drop l))|false=>none
  |_,_=>none
 |_=>none
def room(n off:Nat):lan->Nat
 |some c=>c
 |none=>n-off
def qj(id ep off l h m:Nat)(cap:lan):lae:=
 match Nat.ble l h&&Nat.ble h m with
 | true=>match cap with
  |some c=>match Nat.beq c l with
   |true=>some (.slice id ep 0 0 (some 0))
   |false=>some (.slice id ep (off+l) (h-l) (some (c-l)))
  |none=>some (.slice id ep (off+l) (h-l) none)
 |false=>none
def vi(xs:laa)(l h:Nat)(tight:Bool):lae:=
 match Nat.ble l h&&Nat.ble h xs.length with
 |true=>some (.ps ((xs.take h).drop l) tight)
 |false=>none
def pE(s:Nat):laa->Bool
 |[]=>true
 |x::_=>Nat.beq x.cells.length s
def gj(s:Nat)(hp:AHeap)(x:lae)(lo hi mx:lae):lae:=
 match x with
 | some (.slice id ep off len cap)=>
  match qS s hp id ep with
  | some xs=>
   match jk 0 lo with
   | some l=>
    match mx,hi with
    |none,hi=>match jk len hi with
     |some h=>qj id ep off l h (room xs.length off cap) cap
     |none=>none
    | some m,some hi=>match gX m,gX hi with
     |some m,some h=>match Nat.ble m (room xs.length off cap)with
      |true=>qj id ep off l h m (some m)
      |false=>none
     |_,_=>none
    |some _,none=>none
   |none=>none
  |none=>none
 | some (.ps xs tight)=>
  match pE s xs with
  | true=>
   match jk 0 lo with
   | some l=>
    match mx,hi with
    |none,hi=>match jk xs.length hi with
     |some h=>vi xs l h (tight&&Nat.beq h xs.length)
     |none=>none
    |some m,some hi=>match gX m,gX hi with
     |some m,some h=>match Nat.beq h m with|true=>vi xs l h true|false=>none
     |_,_=>none
    |some _,none=>none
   |none=>none
  |false=>none
 | some .nils=>
  match jk 0 lo,mx,hi with
  |some 0,none,hi=>match jk 0 hi with
   |some 0=>some .nils
   |_=>none
  |some 0,some m,some hi=>match gX m,gX hi with
   |some 0,some 0=>some .nils
   |_,_=>none
  |_,_,_=>none
 |_=>none
def Hc:lae->lae
 |some (.ps ys _)=>some (.ls ys)
 |_=>none
def dt(s:Nat)(hp:AHeap)(x:lae)(lo hi mx:lae):lae:=
 match x with
 |some (.ls xs)=>match mx with
  |none=>Hc (gj s hp (some (.ps xs false)) lo hi none)
  |some _=>none
 |x=>gj s hp x lo hi mx
def Vs:lar->lar->Bool
 |_,[]=>false
 |[],_::_=>true
 |a::x,b::y=>Nat.blt a.toNat b.toNat||(Nat.beq a.toNat b.toNat&&Vs x y)
def ei:lar->lar->Bool
 |[],[]=>true
 |a::x,b::y=>Nat.beq a.toNat b.toNat&&ei x y
 |_,_=>false
def ae:Int->Int->Bool
 | .ofNat a,.ofNat b=>Nat.beq a b
 | .negSucc a,.negSucc b=>Nat.beq a b
 |_,_=>false
def aE:Int->Int->Bool
 | .ofNat a,.ofNat b=>Nat.blt a b
 | .negSucc a,.negSucc b=>Nat.blt b a
 | .negSucc _,.ofNat _=>true
 | .ofNat _,.negSucc _=>false
def lX:IntKind->IntKind->Bool
 | .i8,.i8 | .i16,.i16 | .i32,.i32 | .i64,.i64 | .u8,.u8 | .u16,.u16 | .u32,.u32 | .u64,.u64=>true
 |_,_=>false
def oI:lan->lan->Bool
 |none,none=>true
 |some a,some b=>Nat.beq a b
 |_,_=>false
mutual
def Uk:AV->AV->Bool
 | .bool a,.bool b=>a==b
 | .int j a,.int k b=>lX j k&&ae a b
 | .str a,.str b=>ei a b
 | .nilp,.nilp | .nils,.nils | .nilm,.nilm | .nilf,.nilf | .nili,.nili=>true
 | .map a,.map b=>Nat.beq a b
 | .slice a b c d e,.slice a' b' c' d' e'=>Nat.beq a a'&&Nat.beq b b'&&Nat.beq c c'&&Nat.beq d d'&&oI e e'
 | .ps xs a,.ps ys b=>zk xs ys&&a==b
 | .iface t v,.iface u w=>Nat.beq t u&&Uk v w
 | .agg a,.agg b=>zk a b
 | .tuple a,.tuple b=>zk a b
 |_,_=>false
def zk:laa->laa->Bool
 |[],[]=>true
 |a::as,b::bs=>Uk a b&&zk as bs
 |_,_=>false
end
def K5(tag:Nat)(x y:AV):lax:=
 match tag,x,y with
 |1,.int j a,.int k b=>match lX j k with|true=>some (ae a b)|false=>none
 |2,.str a,.str b=>some (ei a b)
 |0,.bool a,.bool b=>some (a==b)
 |_,_,_=>none
def Uw(tag:Nat)(a b:lae):lax:=
 match a,b with
 |some a,some b=>K5 tag a b
 |_,_=>none
def Bb(k:lax):lax->lax
 |some true=>k
 |some false=>some false
 |none=>none
def yg(xs ys:laa):List (Nat×Nat)->lax
 |[]=>some true
 |(i,t)::r=>Bb (yg xs ys r) (Uw t (jI xs i) (jI ys i))
def Zz(ag:lax)(sz:lan)(lv:Option (List (Nat×Nat))):AV->AV->lax
 | .agg a,.agg b=>match ag,sz,lv with
  |some true,some n,some l=>match Nat.beq a.length n&&Nat.beq b.length n with|true=>yg a b l|false=>none
  |_,_,_=>none
 | .int j a,.int k b=>match lX j k with|true=>some (ae a b)|false=>none
 | .str a,.str b=>some (ei a b)
 | .bool a,.bool b=>match ag,lv with|some false,some [(_,0)]=>some (a==b)|_,_=>none
 |_,_=>none
def Iv(d:Option TypeDesc)(x y:AV):lax:=
 match d,x,y with
 |some (.pointer _),.nilp,.nilp |some (.slice _),.nils,.nils |some (.map _ _),.nilm,.nilm |some (.func _ _ _),.nilf,.nilf=>some true
 |some (.pointer _),.ptr ..,.nilp |some (.pointer _),.nilp,.ptr .. |some (.slice _),.slice ..,.nils |some (.slice _),.nils,.slice .. |some (.slice _),.ps ..,.nils |some (.slice _),.nils,.ps ..
 |some (.map _ _),.map _,.nilm |some (.map _ _),.nilm,.map _|some (.func _ _ _),.func ..,.nilf |some (.func _ _ _),.nilf,.func ..=>some false
 |_,_,_=>none
def ph(k:lax):lax->lax
 |some b=>some b
 |none=>k
def xZ(f:IntKind->Int->Int->lae):AV->AV->lae
 | .int k a,.int j b=>match lX k j with|true=>f k a b|false=>none
 |_,_=>none
def PG(fi:Int->Int->Bool)(fs:lar->lar->Bool):AV->AV->lae
 | .int k a,.int j b=>match lX k j with|true=>some (.bool (fi a b))|false=>none
 | .str a,.str b=>some (.bool (fs a b))
 |_,_=>none
def Xz:AV->AV->lae
 | .int k a,.int j b=>match lX k j with|true=>some (.int k (k.wrap (a+b)))|false=>none
 | .str a,.str b=>match Nat.ble (a.length+b.length) (2^62)with|true=>some (.str (a++b))|false=>none
 |_,_=>none
def aah:AV->AV->lae
 | .int k a,.int _ (.ofNat b)=>some (.int k (k.wrap (a*2^(min b k.bits))))
 |_,_=>none
def aag:AV->AV->lae
 | .int k a,.int _ (.ofNat b)=>some (.int k (a.fdiv (2^(min b k.bits))))
 |_,_=>none
def qm(op:BinOp)(d:Option TypeDesc)(ag:lax)(sz:lan)(lv:Option (List (Nat×Nat)))(x y:AV):lae:=
 match op with
 | .add=>Xz x y
 | .sub=>xZ (λk a b=>some (.int k (k.wrap (a-b)))) x y
 | .mul=>xZ (λk a b=>some (.int k (k.wrap (a*b)))) x y
 | .quo=>xZ (λk a b=>match ae b 0 with|true=>none|false=>some (.int k (k.wrap (a.tdiv b)))) x y
 | .rem=>xZ (λk a b=>match ae b 0 with|true=>none|false=>some (.int k (a.tmod b))) x y
 | .eql=>match ph (Iv d x y) (Zz ag sz lv x y)with|some b=>some (.bool b)|none=>none
 | .neq=>match ph (Iv d x y) (Zz ag sz lv x y)with|some b=>some (.bool (!b))|none=>none
 | .lss=>PG aE Vs x y
 | .leq=>PG (λa b=>!aE b a) (λa b=>Vs a b||ei a b) x y
 | .gtr=>PG (λa b=>aE b a) (λa b=>!(Vs a b||ei a b)) x y
 | .geq=>PG (λa b=>!aE a b) (λa b=>!Vs a b) x y
 | .shl=>aah x y
 | .shr=>aag x y
 |_=>none
def unR(op:UnOp)(x:AV):lae:=
 match op,x with
 | .not,.bool b=>some (.bool !b)
 | .neg,.int k n=>some (.int k (k.wrap (0-n)))
 |_,_=>none
def wT:laa->Option lar
 |[]=>some []
 | .int .u8 (.ofNat n)::r=>match Nat.blt n 256 with
  |true=>match wT r with|some l=>some (UInt8.ofNat n::l)|none=>none
  |false=>none
 |_=>none
def kI(h:AHeap):AV->lbh
 | .nils=>some []
 | .ps xs _=>some xs
 | .ls xs=>some xs
 | .slice id ep off len _=>
  match h.get id with
  |some (.row _ _ ep' xs)=>match Nat.beq ep ep' with|true=>some ((xs.drop off).take len)|false=>none
  |_=>none
 |_=>none
def Fp(k:IntKind):lae->lae
 |some (.int _ n)=>some (.int k (k.wrap n))
 |_=>none
def Fo:lae->lae
 |some (.str s)=>some (.str s)
 |_=>none
def pS(h:AHeap):lae->lae
 |some x=>match kI h x with
  |some xs=>match wT xs with|some l=>some (.str l)|none=>none
  |none=>none
 |none=>none
def kN:lae->lae
 |some (.str s)=>match Nat.ble s.length (2^40)with|true=>some (.ps (s.map λb=>.int .u8 (.ofNat b.toNat)) false)|false=>none
 |_=>none
def dL(sz:Nat):laa->Bool
 |[]=>true
 |x::r=>Nat.beq x.cells.length sz&&fj x&&dL sz r
def Bv(cells:laa):List ((Nat×Nat)×lae)->lbh
 |[]=>some cells
 |((off,size),some v)::rest=>
  match Nat.beq v.cells.length size&&Nat.ble (off+size) cells.length&&fj v with
  |true=>Bv (pa cells off v.cells) rest
  |false=>none
 |(_,none)::_=>none
def T9:lbh->lae
 |some cs=>some (.agg cs)
 |none=>none
def AX(sz:Nat)(xs:laa):List (Nat×lae)->lbh
 |[]=>some xs
 |(i,some v)::r=>match Nat.blt i xs.length&&Nat.beq v.cells.length sz&&fj v with
  |true=>AX sz (xs.set i v) r
  |false=>none
 |(_,none)::_=>none
def Yw:lbh->lae
 |some xs=>some (.ps xs true)
 |none=>none
def rx(ag:Bool)(sz:Nat)(lv:List (Nat×Nat))(x y:AV):lax:=
 match ag,lv,x,y with
 |true,lv,.agg a,.agg b=>match Nat.beq a.length sz&&Nat.beq b.length sz with|true=>yg a b lv|false=>none
 |false,[(_,t)],x,y=>K5 t x y
 |_,_,_,_=>none
def nl(e:AEnt)(i:Nat)(k:Option (Option (Nat×AEnt))):lax->Option (Option (Nat×AEnt))
 |some true=>some (some (i,e))
 |some false=>k
 |none=>none
def bf(ag:Bool)(sz:Nat)(lv:List (Nat×Nat))(k:AV):laq->Nat->Option (Option (Nat×AEnt))
 |[],_=>some none
 |e::r,i=>nl e i (bf ag sz lv k r (i+1)) (rx ag sz lv k e.key)
def Hm(ag:Bool)(sz:Nat):AV->Bool
 | .agg cs=>ag&&Nat.beq cs.length sz
 | .int .. | .str _| .bool _=>!ag
 |_=>false
def kY:AV->AV->Bool
 | .int j a,.int k b=>lX j k&&ae a b
 | .str a,.str b=>ei a b
 | .bool a,.bool b=>a==b
 |_,_=>false
def jT:laa->laa->Bool
 |[],[]=>true
 |x::xs,y::ys=>kY x y&&jT xs ys
 |_,_=>false
def lp:AV->AV->Bool
 | .agg a,.agg b=>jT a b
 |x,y=>kY x y
def oV(ok:Bool)(v:lae)(b:Bool):lae:=
 match v with
 |some v=>match ok with|true=>some (.tuple [v,.bool b])|false=>some v
 |none=>none
def fW(z:lae)(ok:Bool):Option (Option (Nat×AEnt))->lae
 |some (some (_,en))=>oV ok (some en.val) true
 |some none=>oV ok z false
 |none=>none
def u9(ag:Bool)(sz:Nat)(lv:List (Nat×Nat))(z:lae)(ok:Bool)(h:AHeap)(m k:lae):lae:=
 match m,k with
 |some .nilm,some k=>match Hm ag sz k with|true=>oV ok z false|false=>none
 | some (.map id),some k=>match Hm ag sz k with
  |true=>match h.get id with
   |some (.map es _)=>fW z ok (bf ag sz lv k es 0)
   |_=>none
  |false=>none
 |_,_=>none
def yE(h:AHeap)(id:Nat)(es:laq)(clock:Nat)(k v:AV):Option (Option (Nat×AEnt))->lbd
 |some (some (i,en))=>match lp k en.key with|true=>some (h.put id (.map (es.set i {en with val:=v}) clock))|false=>none
 |some none=>some (h.put id (.map (es++[{key:=k,val:=v,born:=clock}]) (clock+1)))
 |none=>none
def rF(ag:Bool)(sz:Nat)(lv:List (Nat×Nat))(h:AHeap)(m k v:lae):lbd:=
 match m,k,v with
 | some (.map id),some k,some v=>match Hm ag sz k with
  |true=>match h.get id with
   |some (.map es clock)=>yE h id es clock k v (bf ag sz lv k es 0)
   |_=>none
  |false=>none
 |_,_,_=>none
def S9(z:lae)(h:AHeap)(id:Nat)(es:laq)(clock:Nat)(k:AV):Option (Option (Nat×AEnt))->Option (AV×AHeap)
 |some (some (i,en))=>match lp k en.key with|true=>some (.tuple [en.val,.int .i64 (.ofNat en.born)],h.put id (.map (es.set i {en with val:=en.val}) clock))|false=>none
 |some none=>match z with|some z=>some (.tuple [z,.int .i64 (.ofNat clock)],h.put id (.map (es++[{key:=k,val:=z,born:=clock}]) (clock+1)))|none=>none
 |none=>none
def oM(ag:Bool)(sz:Nat)(lv:List (Nat×Nat))(z:lae)(h:AHeap)(m k:lae):Option (AV×AHeap):=
 match m,k with
 | some (.map id),some k=>match Hm ag sz k with
  |true=>match h.get id with
   |some (.map es clock)=>S9 z h id es clock k (bf ag sz lv k es 0)
   |_=>none
  |false=>none
 |_,_=>none
def BI(n:Int):laq->Nat->Option (Nat×AEnt)
 |[],_=>none
 |e::r,i=>match ae (.ofNat e.born) n with|true=>some (i,e)|false=>BI n r (i+1)
def kq(h:AHeap)(m s x:lae):lbd:=
 match m,s,x with
 | some (.map id),some (.int _ n),some x=>match h.get id with
  |some (.map es clock)=>match BI n es 0 with
   |some (i,en)=>some (h.put id (.map (es.set i {en with val:=x}) clock))
   |none=>none
  |_=>none
 |_,_,_=>none
def Kz:lae->lae
 |some (.str s)=>some (.int .i64 (.ofNat s.length))
 |_=>none
def RN:lae->lae
 |some .nils=>some (.int .i64 0)
 |some (.ps xs _)=>some (.int .i64 (.ofNat xs.length))
 |some (.ls xs)=>some (.int .i64 (.ofNat xs.length))
 |some (.slice _ _ _ n _)=>some (.int .i64 (.ofNat n))
 |some (.sl0 _ _ n _)=>some (.int .i64 (.ofNat n))
 |_=>none
def Kk(h:AHeap):lae->lae
 |some .nilm=>some (.int .i64 0)
 |some (.map id)=>match h.get id with|some (.map es _)=>some (.int .i64 (.ofNat es.length))|_=>none
 |_=>none
def Zl:lae->lae
 |some .nils=>some (.int .i64 0)
 |some (.ps xs true)=>some (.int .i64 (.ofNat xs.length))
 |some (.slice _ _ _ _ (some c))=>some (.int .i64 (.ofNat c))
 |_=>none
def kh(h:AHeap):AV->lbh
 | .str s=>some (s.map λb=>.int .u8 (.ofNat b.toNat))
 |x=>kI h x
def bN(xs:laa)(i:Nat)(new:laa):laa:=xs.take i++new++xs.drop (i+new.length)
def small(n b:Nat):Bool:=Nat.ble n (2^40)&&Nat.ble (n*b) (2^40)
def iR(sz:Nat)(h:AHeap)(xs:laa):Option (AV×AHeap):=some (.slice h.n 0 0 xs.length none,h.push (.row sz true 0 xs))
def gE (sz b:Nat)(h:AHeap)(s:AV)(new:laa):Option (AV×AHeap):=
 match new with
 |[]=>match s with
  | .nils | .ps .. | .ls .. | .slice ..=>some (s,h)
  |_=>none
 | _::_=>
  match dL sz new with
  |false=>none
  | true=>
   match s with
   | .nils=>match small new.length b with|true=>iR sz h new|false=>none
   | .ps xs true=>match small (xs.length+new.length) b&&dL sz xs with|true=>iR sz h (xs++new)|false=>none
   | .slice id ep off len cap=>
    match h.get id with
    | some (.row sz' op ep' xs)=>
     match Nat.beq ep ep'&&Nat.beq sz sz'&&small (len+new.length) b with
     |false=>none
     | true=>
      match cap with
      | some c=>match Nat.ble (len+new.length) c with
       |true=>match Nat.ble (off+len+new.length) xs.length with
        |true=>some (.slice id ep off (len+new.length) cap,h.put id (.row sz' op ep' (bN xs (off+len) new)))
        |false=>none
       |false=>iR sz h ((xs.drop off).take len++new)
      | none=>match Nat.ble (off+len+new.length) xs.length with
       |true=>some (.slice id ep off (len+new.length) none,h.put id (.row sz' op ep' (bN xs (off+len) new)))
       |false=>match off,op with
        |0,true=>some (.slice id (ep+1) 0 (len+new.length) none,h.put id (.row sz' true (ep+1) (xs.take len++new)))
        |_,_=>none
    |_=>none
   |_=>none
def NV(sz b:Nat)(z:AV)(h:AHeap)(s:AV)(k:Nat):Option (AV×AHeap):=
 match s with
 | .slice id ep off len (some c)=>match h.get id with
  |some (.row sz' _ ep' xs)=>match Nat.beq ep ep'&&Nat.beq sz sz'&&small (len+k) b&&small k b&&Nat.ble 1 k&&Nat.blt c (len+k)&&dL sz [z]with
   |true=>iR sz h ((xs.drop off).take len++List.replicate k z)
   |false=>none
  |_=>none
 | .nils=>match small k b&&Nat.ble 1 k&&Nat.ble 1 sz&&dL sz [z]with
  |true=>iR sz h (List.replicate k z)
  |false=>none
 |_=>none
def Dn(sz b:Nat)(z:AV)(h:AHeap):lae->lae->Option (AV×AHeap)
 |some s,some (.int .i64 (.ofNat k))=>NV sz b z h s k
 |_,_=>none
def ge(sz b:Nat)(h:AHeap)(s src:AV):Option (AV×AHeap):=
 match kh h src with
 |some new=>gE sz b h s new
 |none=>none
def dx(sz b:Nat)(h:AHeap):lae->lae->Option (AV×AHeap)
 |some s,some x=>ge sz b h s x
 |_,_=>none
def N1(s:Nat)(h:AHeap)(dst:AV)(ys:laa):Option (AV×AHeap):=
 match dst with
 | .slice id ep off len _=>
  match h.get id with
  |some (.row sz op ep' xs)=>
   match Nat.beq ep ep'&&Nat.beq s sz&&dL sz (ys.take len)with
   |true=>some (.int .i64 (.ofNat (min ys.length len)),h.put id (.row sz op ep' (bN xs off (ys.take len))))
   |false=>none
  |_=>none
 |_=>none
def vu(s:Nat)(h:AHeap):lae->lae->Option (AV×AHeap)
 |some d,some x=>match kh h x with
  |some ys=>N1 s h d ys
  |none=>none
 |_,_=>none
def wS(s:Nat)(z:AV)(h:AHeap)(x:lae):Option (AV×AHeap):=
 match x with
 | some (.slice id ep off len _)=>
  match h.get id with
  |some (.row sz op ep' xs)=>
   match Nat.beq ep ep'&&Nat.beq s sz&&dL sz [z]with
   |true=>some (gh,h.put id (.row sz op ep' (bN xs off (List.replicate len z))))
   |false=>none
  |_=>none
 |_=>none
def pt(sz b:Nat)(z:AV)(h:AHeap)(l c:lae):Option (AV×AHeap):=
 match l,c with
 |some (.int _ (.ofNat l)),some (.int _ (.ofNat c))=>
  match Nat.ble l c&&small c b with
  |true=>some (.slice h.n 0 0 l (some c),h.push (.row sz false 0 (List.replicate c z)))
  |false=>none
 |_,_=>none
def Dg(a b:Int):Int:=match aE a b with|true=>b|false=>a
def O9(a b:Int):Int:=match aE b a with|true=>b|false=>a
def PQ(isMax:Bool)(k:IntKind):Int->laa->lae
 |a,[]=>some (.int k a)
 |a,.int _ b::r=>PQ isMax k (match isMax with|true=>Dg a b|false=>O9 a b) r
 |_,_=>none
def Vc(isMax:Bool):laa->lae
 | .int k a::r=>PQ isMax k a r
 |_=>none
abbrev fz:=Nat->lae
structure ROpd where
 run:Fr->lae
structure ROp where
 run:Fr->AHeap->lay
def cA(G:fz):Operand->ROpd
 | .tmp t=>⟨λA=>A.get t⟩
 | .const v=>⟨λ_=>ofValue v⟩
 | .global g=>⟨λ_=>match G g with|some x=>some (.pptr [x] 0 0)|none=>none⟩
 | .func f=>⟨λ_=>some (.func (.func f) [] [])⟩
structure ROpds where
 run:Fr->lbh
def N2(A:Fr)(r:ROpds):lae->lbh
 |some v=>match r.run A with|some vs=>some (v::vs)|none=>none
 |none=>none
def wc(G:fz):List Operand->ROpds
 |[]=>⟨λ_=>some []⟩
 |x::r=>⟨λA=>N2 A (wc G r) ((cA G x).run A)⟩
def rK(G:fz)(x:Option Operand)(A:Fr)(k:lae->lae):lae:=
 match x with
 |none=>k none
 |some x=>match(cA G x).run A with|some v=>k (some v)|none=>none
def dP:ROp:=⟨λ_ _=>none⟩
def bp(h:AHeap):lae->lay
 |some v=>some (.val v h)
 |none=>none
def fJ:Option (AV×AHeap)->lay
 |some (v,h)=>some (.val v h)
 |none=>none
def ww:lbd->lay
 |some h=>some (.val gh h)
 |none=>none
def RB(h:AHeap):lae->Option (AV×AHeap)
 | some (.ptr id 0 0 0)=>
  match h.get id with
  |some (.siter s pos)=>
   match Nat.blt pos s.length with
   |true=>some (.tuple [.bool true,.int .i64 (.ofNat pos),.int .i32 (Utf8.decode ⟨s.toArray⟩ pos).1],h.put id (.siter s (pos+(Utf8.decode ⟨s.toArray⟩ pos).2)))
   |false=>some (.tuple [.bool false],h)
  |_=>none
 |_=>none
def wy(h:AHeap):lae->Option (AV×AHeap)
 |some .nilm=>some (.ptr h.n 0 0 0,h.push (.miter .nilm 0 []))
 |some (.map id)=>match h.get id with
  |some (.map _ clock)=>some (.ptr h.n 0 0 0,h.push (.miter (.map id) clock []))
  |_=>none
 |_=>none
def o5(b:Nat):laq->Option AEnt
 |[]=>none
 |e::r=>match Nat.beq e.born b with|true=>some e|false=>o5 b r
def Nb:laf->lan
 |[]=>none
 |x::r=>match r with|[]=>some x|_::_=>Nb r
def TG(es:laq):lan->Option AEnt
 |some b=>o5 b es
 |none=>none
def Wc:Option AEnt->lae
 |some e=>some (.tuple [e.key,e.val])
 |none=>none
def K7(h:AHeap):lae->lae
 | some (.ptr id 0 0 0)=>match h.get id with
  | some (.miter (.map m) clock seen)=>match h.get m with
   |some (.map es clock')=>match Nat.beq clock clock' with
    |true=>Wc (TG es (Nb seen))
    |false=>none
   |_=>none
  |_=>none
 |_=>none
def Ao(h:AHeap):lae->lae
 |some (.ptr id 0 0 0)=>match h.get id with
  |some (.miter .nilm _ _)=>some (.tuple [.bool false])
  |_=>none
 |_=>none
def EU(args:laa):lae->lay
 |some (.func (.func f) first captured)=>some (.call f (first++args++captured))
 |_=>none
def MI(a b:ROpd)(A:Fr):lae->lae
 |some (.bool true)=>a.run A
 |some (.bool false)=>b.run A
 |_=>none
def Zd:lae->lae
 |some (.ptr a b c d)=>some (.ptr a b c d)
 |some (.pptr a b c)=>some (.pptr a b c)
 |some (.func (.func f) a b)=>some (.func (.func f) a b)
 |_=>none
def sm(h:AHeap):lae->lay
 |some z=>match z.cells with
  |[]=>none
  |_::_=>match fj z with|true=>some (.val (.ptr h.n 0 0 0) (h.push (.row z.cells.length false 0 [z])))|false=>none
 |none=>none
def KP(ag:Bool)(n off:Nat):lae->lae
 |some (.agg cs)=>uL ag n cs off
 |_=>none
def ext(i:Nat):lae->lae
 |some (.tuple vs)=>jI vs i
 |_=>none
def Uf(f:AV->AV->lae):lae->lae->lae
 |some x,some y=>f x y
 |_,_=>none
def one(f:AV->lae):lae->lae
 |some x=>f x
 |none=>none
section
variable(P:Program)(G:fz)
def Cu(t:TypeId)(parts:List ((Nat×Nat)×Operand)):ROp:=
 match iP P t with
 |some z=>match fj z with
  |true=>⟨λA h=>bp h (T9 (Bv z.cells (parts.map λp=>(p.1,(cA G p.2).run A))))⟩
  |false=>dP
 |none=>dP
def nj:lbc->Option (List (Nat×Nat))
 |[]=>some []
 |f::r=>match dV P f.type,nj r with
  |some s,some l=>some ((f.offset,s)::l)
  |_,_=>none
def pf(pl:List (Nat×Nat)):List (Nat×Operand)->Option (List ((Nat×Nat)×Operand))
 |[]=>some []
 |(i,x)::r=>match jI pl i,pf pl r with
  |some p,some l=>some ((p,x)::l)
  |_,_=>none
def wR(s d:TypeId)(x:Operand):ROp:=
 match P.underlying s,P.underlying d with
 |some _,some (.int k)=>⟨λA h=>bp h (Fp k ((cA G x).run A))⟩
 |some (.slice e),some .string=>match P.underlying e with
  |some (.int .u8)=>⟨λA h=>bp h (pS h ((cA G x).run A))⟩
  |_=>dP
 |some .string,some .string=>⟨λA h=>bp h (Fo ((cA G x).run A))⟩
 |some .string,some (.slice e)=>match P.underlying e with
  |some (.int .u8)=>⟨λA h=>bp h (kN ((cA G x).run A))⟩
  |_=>dP
 |_,_=>dP
def iD(b:Builtin)(ts:Array TypeId)(args:List Operand):ROp:=
 match b,args with
 | .len,[x]=>match(ts[0]?).bind P.underlying with
  |some .string=>⟨λA h=>bp h (Kz ((cA G x).run A))⟩
  |some (.slice _)=>⟨λA h=>bp h (RN ((cA G x).run A))⟩
  |some (.map _ _)=>⟨λA h=>bp h (Kk h ((cA G x).run A))⟩
  |_=>dP
 | .cap,[x]=>match(ts[0]?).bind P.underlying with
  |some (.slice _)=>⟨λA h=>bp h (Zl ((cA G x).run A))⟩
  |_=>dP
 | .append,[s,x]=>match(ts[0]?).bind (fU P),(ts[1]?).bind P.underlying with
  | some e,some tx=>match tx,P.info? e with
   | .int .i64,some i=>match i.size,iP P e with
    |sz+1,some z=>match Nat.beq z.cells.length (sz+1)with
     |true=>⟨λA h=>fJ (Dn (sz+1) i.bytes z h ((cA G s).run A) ((cA G x).run A))⟩
     |false=>dP
    |_,_=>dP
   | .slice _,some i| .string,some i=>match i.size,iP P e with
    |sz+1,some z=>match Nat.beq z.cells.length (sz+1)with
     |true=>⟨λA h=>fJ (dx (sz+1) i.bytes h ((cA G s).run A) ((cA G x).run A))⟩
     |false=>dP
    |_,_=>dP
   |_,_=>dP
  |_,_=>dP
 | .copy,[d,s]=>match(ts[0]?).bind (fU P)with
  |some e=>match dV P e with
   |some (n+1)=>⟨λA h=>fJ (vu (n+1) h ((cA G d).run A) ((cA G s).run A))⟩
   |_=>dP
  |none=>dP
 | .clear,[x]=>match(ts[0]?).bind (fU P)with
  |some e=>match dV P e,iP P e with
   |some (n+1),some z=>⟨λA h=>fJ (wS (n+1) z h ((cA G x).run A))⟩
   |_,_=>dP
  |none=>dP
 | .min,args=>⟨λA h=>match(wc G args).run A with|some l=>bp h (Vc false l)|none=>none⟩
 | .max,args=>⟨λA h=>match(wc G args).run A with|some l=>bp h (Vc true l)|none=>none⟩
 |_,_=>dP
def fc(o:Op):ROp:=
 match o with
 | .move x| .assign x=>⟨λA h=>bp h ((cA G x).run A)⟩
 | .pick c a b=>⟨λA h=>bp h (MI (cA G a) (cA G b) A ((cA G c).run A))⟩
 | .alloc e=>match iP P e,dV P e with
  |some z,some s=>match Nat.beq z.cells.length s with|true=>⟨λ_ h=>sm h (some z)⟩|false=>dP
  |_,_=>dP
 | .box _ x=>⟨λA h=>sm h ((cA G x).run A)⟩
 | .build t parts=>match P.underlying t with
  | some (.struct fs)=>match nj P fs.toList with
   |some pl=>match pf pl parts.toList with
    |some l=>Cu P G t l
    |none=>dP
   |none=>dP
  |some (.array _ e)=>match dV P e with
   |some s=>Cu P G t (parts.toList.map λp=>((p.1*s,s),p.2))
   |none=>dP
  |_=>dP
 | .buildSlice t n parts=>match fU P t with
  | some e=>match dV P e,iP P e with
   |some (s+1),some z=>match Nat.beq z.cells.length (s+1)&&Nat.ble (n*(s+1)) (2^24)&&fj z with
    |true=>⟨λA h=>bp h (Yw (AX (s+1) (List.replicate n z) (parts.toList.map λp=>(p.1,(cA G p.2).run A))))⟩
    |false=>dP
   |_,_=>dP
  |none=>dP
 | .load t a=>match dW P t,dV P t with
  |some ag,some n=>⟨λA h=>bp h (AM ag n h ((cA G a).run A))⟩
  |_,_=>dP
 | .store t a x=>match dV P t with
  |some n=>⟨λA h=>ww (tq n h ((cA G a).run A) ((cA G x).run A))⟩
  |none=>dP
 | .nilCheck x=>⟨λA h=>bp h (Zd ((cA G x).run A))⟩
 | .binOp op t x y _=>⟨λA h=>bp h (Uf (qm op (P.underlying t) (dW P t) (dV P t) (eW P 10 t 0)) ((cA G x).run A) ((cA G y).run A))⟩
 | .unOp op _ x=>⟨λA h=>bp h (one (unR op) ((cA G x).run A))⟩
 | .convert s d x=>wR P G s d x
 | .makeInterface t x=>match P.underlying t with
  |some (.interface _)|none=>dP
  |some _=>⟨λA h=>bp h (one (λv=>some (.iface t v)) ((cA G x).run A))⟩
 | .makeFunc fn first captured=>⟨λA h=>match(wc G first.toList).run A,(wc G captured.toList).run A with
  |some a,some b=>some (.val (.func fn a b) h)
  |_,_=>none⟩
 | .makeMap t none=>match P.underlying t with
  |some (.map _ _)=>⟨λ_ h=>some (.val (.map h.n) (h.push (.map [] 0)))⟩
  |_=>dP
 | .makeMap t (some r)=>match P.underlying t with
  |some (.map _ _)=>⟨λA h=>match(cA G r).run A with|some (.int ..)=>some (.val (.map h.n) (h.push (.map [] 0)))|_=>none⟩
  |_=>dP
 | .makeSlice t l c=>match fU P t with
  | some e=>match P.info? e,iP P e with
   |some i,some z=>match Nat.beq z.cells.length i.size&&Nat.blt 0 i.size&&fj z with
    |true=>⟨λA h=>fJ (pt i.size i.bytes z h ((cA G l).run A) ((cA G c).run A))⟩
    |false=>dP
   |_,_=>dP
  |none=>dP
 | .slice t x lo hi mx=>match P.underlying t with
  |some .string=>match mx with
   |none=>⟨λA h=>bp h (rK G lo A λlo=>rK G hi A λhi=>lF ((cA G x).run A) lo hi)⟩
   |some _=>dP
  |some (.slice e)=>match dV P e with
   |some (s+1)=>⟨λA h=>bp h (rK G lo A λlo=>rK G hi A λhi=>rK G mx A λmx=>dt (s+1) h ((cA G x).run A) lo hi mx)⟩
   |_=>dP
  |_=>dP
 | .fieldAddr s x f=>match fieldsOf P s with
  | some fs=>match fs[f]? with
   |some f=>match dV P f.type with
    |some (_+1)=>⟨λA h=>bp h (offset f.offset ((cA G x).run A))⟩
    |_=>dP
   |none=>dP
  |none=>dP
 | .field s x f=>match fieldsOf P s with
  | some fs=>match fs[f]? with
   |some f=>match dW P f.type,dV P f.type with
    |some ag,some n=>⟨λA h=>bp h (KP ag n f.offset ((cA G x).run A))⟩
    |_,_=>dP
   |none=>dP
  |none=>dP
 | .indexAddr t x i=>match P.underlying t with
  |some (.array n e)=>match dV P e with
   |some (s+1)=>⟨λA h=>bp h (oP n (s+1) ((cA G x).run A) ((cA G i).run A))⟩
   |_=>dP
  |some (.slice e)=>match dV P e with
   |some (s+1)=>⟨λA h=>bp h (lO (s+1) h ((cA G x).run A) ((cA G i).run A))⟩
   |_=>dP
  |_=>dP
 | .index t x i=>match P.underlying t with
  |some (.array n e)=>match dW P e,dV P e with
   |some ag,some s=>⟨λA h=>bp h (JZ n ag s ((cA G x).run A) ((cA G i).run A))⟩
   |_,_=>dP
  |some .string=>⟨λA h=>bp h (JQ ((cA G x).run A) ((cA G i).run A))⟩
  |_=>dP
 | .lookup t m k ok=>match P.underlying t with
  |some (.map kt e)=>match dW P kt,dV P kt,eW P 10 kt 0 with
   |some ag,some sz,some lv=>⟨λA h=>bp h (u9 ag sz lv (iP P e) ok h ((cA G m).run A) ((cA G k).run A))⟩
   |_,_,_=>dP
  |_=>dP
 | .mapUpdate t m k x| .insert t m k x=>match P.underlying t with
  |some (.map kt _)=>match dW P kt,dV P kt,eW P 10 kt 0 with
   |some ag,some sz,some lv=>⟨λA h=>ww (rF ag sz lv h ((cA G m).run A) ((cA G k).run A) ((cA G x).run A))⟩
   |_,_,_=>dP
  |_=>dP
 | .mapEntry t m k=>match P.underlying t with
  |some (.map kt e)=>match dW P kt,dV P kt,eW P 10 kt 0 with
   |some ag,some sz,some lv=>⟨λA h=>fJ (oM ag sz lv (iP P e) h ((cA G m).run A) ((cA G k).run A))⟩
   |_,_,_=>dP
  |_=>dP
 | .entryStore _ m s x=>⟨λA h=>ww (kq h ((cA G m).run A) ((cA G s).run A) ((cA G x).run A))⟩
 | .range t x=>match P.underlying t with
  |some .string=>⟨λA h=>match(cA G x).run A with|some (.str s)=>some (.val (.ptr h.n 0 0 0) (h.push (.siter s 0)))|_=>none⟩
  |some (.map _ _)=>⟨λA h=>fJ (wy h ((cA G x).run A))⟩
  |_=>dP
 | .next it true=>⟨λA h=>fJ (RB h ((cA G it).run A))⟩
 | .next it false=>⟨λA h=>bp h (Ao h ((cA G it).run A))⟩
 | .entry it=>⟨λA h=>bp h (K7 h ((cA G it).run A))⟩
 | .extract t i=>⟨λA h=>bp h (ext i ((cA G t).run A))⟩
 | .call {callee:=.value f,args, ..}=>⟨λA _=>match(wc G args.toList).run A with|some l=>EU l ((cA G f).run A)|none=>none⟩
 | .call {callee:=.builtin b,args,argTypes}=>iD P G b argTypes args.toList
 |_=>dP
end
end
noncomputable section
inductive AExit where
 |normal|exit (id:Nat)|ret
 deriving Inhabited,DecidableEq
structure St where
 tmps:Fr
 heap:AHeap
 deriving Inhabited
abbrev lbb:=Option St
def jU(A:Fr)(dst:lau)(v:AV):Option Fr:=
 match dst with
 |some d=>A.put d v
 |none=>some A
def Nat.mx(a b:Nat):Nat:=match Nat.ble a b with|true=>b|false=>a
mutual
def AV.top:AV->Nat
 | .ptr id ..=>id+1
 | .slice id ..=>id+1
 | .sl0 id ..=>id+1
 | .map id=>id+1
 | .func _ a b=>Nat.mx (az a) (az b)
 | .iface _ v=>AV.top v
 | .agg cs=>az cs
 | .tuple vs=>az vs
 | .ps xs _=>az xs
 | .ls _=>0
 | .pptr xs _ _=>az xs
 |_=>0
def az:laa->Nat
 |[]=>0
 |x::r=>Nat.mx (AV.top x) (az r)
end
def ce:laq->Nat
 |[]=>0
 |e::r=>Nat.mx (Nat.mx e.key.top e.val.top) (ce r)
def AObj.top:AObj->Nat
 | .row _ _ _ xs=>az xs
 | .map es _=>ce es
 | .miter m _ _=>m.top
 |_=>0
def fH(h:AHeap)(n:Nat):Nat->Bool
 |0=>true
 |k+1=>match h.get k with
  |some o=>match Nat.ble o.top n with|true=>fH h n k|false=>false
  |none=>fH h n k
def tF(f:AV->lae):laa->lbh
 |[]=>some []
 |x::r=>match f x with
  |some y=>match tF f r with|some ys=>some (y::ys)|none=>none
  |none=>none
def vV(n:Nat)(v:AV):lae:=match Nat.ble v.top n with|true=>some v|false=>none
def frz(h:AHeap):Nat->Nat->AV->lae
 |0,_,_=>none
 | k+1,n,v=>
  match v with
  | .slice id ep off len cap=>
   match Nat.blt id n with
   |true=>some v
   | false=>match h.get id with
    | some (.row _ _ ep' xs)=>
     match Nat.beq ep ep' with
     |true=>match tF (frz h k n) ((xs.drop off).take len)with
      |some ys=>some (.ps ys (oI cap (some len)))
      |none=>none
     |false=>none
    |_=>none
  | .agg cs=>match tF (frz h k n) cs with|some cs=>some (.agg cs)|none=>none
  | .tuple cs=>match tF (frz h k n) cs with|some cs=>some (.tuple cs)|none=>none
  | .func fn a b=>match tF (frz h k n) a,tF (frz h k n) b with|some a,some b=>some (.func fn a b)|_,_=>none
  | .iface t v=>match frz h k n v with|some v=>some (.iface t v)|none=>none
  |v=>vV n v
def kU:Nat:=24
def FJ(v:AV)(h:AHeap)(n:Nat):lae->AV×AHeap
 |some v'=>(v',h.cut n)
 |none=>(v,h)
def Ng(v:AV)(h:AHeap)(n:Nat)(sz:Nat)(op:Bool)(len:Nat)(cap:lan):lbh->AV×AHeap
 |some ys=>(.slice n 0 0 len cap,(h.cut n).push (.row sz op 0 ys))
 |none=>(v,h)
def Hf(n:Nat)(v:AV)(h:AHeap):AV×AHeap:=
 match v with
 | .slice id ep 0 len cap=>
  match h.get id with
  |some (.row sz op ep' xs)=>
   match Nat.ble n id&&Nat.beq ep ep'&&Nat.beq len xs.length with
   |true=>Ng v h n sz op len cap (tF (frz (h.put id .dead) kU n) xs)
   |false=>(v,h)
  |_=>(v,h)
 |_=>FJ v h n (frz h kU n v)
def gJ(pol:Nat)(n:Nat)(v:AV)(h:AHeap):AV×AHeap:=
 match Nat.beq h.n n with
 |true=>(v,h)
 |false=>match pol with
  |0=>match fH h n n with|true=>FJ v h n (frz h kU n v)|false=>(v,h)
  |1=>match fH h n n with|true=>Hf n v h|false=>(v,h)
  |_=>(v,h)
abbrev abU:=FuncId->laa->AHeap->Option (AV×AHeap)
structure Cfg where
 P:Program
 G:fz
 hook:abU:=λ_ _ _=>none
 pol:FuncId->Nat:=λ_=>0
 rounds:Nat:=4096
abbrev cn:=FuncId->laa->AHeap->Option (AV×AHeap)
structure RCode where
 run:cn->St->Option (AExit×St)
def behind(call:cn)(h:AHeap):lay->Option (AV×AHeap)
 |some (.val v h')=>some (v,h')
 |some (.call f args)=>call f args h
 |none=>none
def eL(ops:Array Oper)(o:Oper):Option (lau×Bool):=
 match o.guard with
 |none=>none
 |some (j,want)=>some ((ops[j]?).bind (·.dst),want)
def eO(A:Fr):Option (lau×Bool)->lax
 |none=>some true
 | some (some d,want)=>match A.get d with
  |some (.bool b)=>match b,want with
   |true,true|false,false=>some true
   |_,_=>some false
  |some (.tuple [])=>some false
  |_=>none
 |some (none,_)=>some false
structure ROper where
 g:Option (lau×Bool)
 op:ROp
 dst:lau
def bR(P:Program)(G:fz)(ops:Array Oper)(o:Oper):ROper:=⟨eL ops o,fc P G o.op,o.dst⟩
def fin(A:Fr)(dst:lau)(k:St->lbb):Option (AV×AHeap)->lbb
 |some (v,h)=>match jU A dst v with|some A'=>k ⟨A',h⟩|none=>none
 |none=>none
def zG(call:cn)(r:ROper)(s:St)(k:St->lbb):lbb:=
 match eO s.tmps r.g with
 |some true=>fin s.tmps r.dst k (behind call s.heap (r.op.run s.tmps s.heap))
 |some false=>fin s.tmps r.dst k (some (gh,s.heap))
 |none=>none
structure ROps where
 run:cn->St->lbb
def AW(P:Program)(G:fz)(ops:Array Oper):las->ROps
 |[]=>⟨λ_ s=>some s⟩
 |o::r=>⟨λcall s=>zG call (bR P G ops o) s ((AW P G ops r).run call)⟩
structure Ids where
 all:Bool
 l:laf
 lo:Nat
 hi:Nat
def ja(id:Nat):laf->Bool
 |[]=>false
 |x::r=>Nat.beq x id||ja id r
def Ids.has(X:Ids)(id:Nat):Bool:=(X.all&&Nat.blt id X.lo)||ja id X.l||(Nat.ble X.lo id&&Nat.blt id X.hi)
def JW(X:Ids):laf->Bool
 |[]=>false
 |x::r=>X.has x||JW X r
def Ids.meets(X Y:Ids):Bool:=
 JW X Y.l||JW Y X.l||
 (X.all&&Y.all&&Nat.blt 0 X.lo&&Nat.blt 0 Y.lo)||
 (X.all&&Nat.blt Y.lo Y.hi&&Nat.blt Y.lo X.lo)||(Y.all&&Nat.blt X.lo X.hi&&Nat.blt X.lo Y.lo)||
 (Nat.blt X.lo X.hi&&Nat.blt Y.lo Y.hi&&Nat.blt X.lo Y.hi&&Nat.blt Y.lo X.hi)
structure Rec where
 vis:Ids
 wr:Ids
def da:Op->Nat
 | .move _| .assign _| .pick .. | .build .. | .buildSlice .. | .fieldAddr .. | .field .. | .extract .. | .makeFunc .. | .makeInterface .. | .binOp .. | .unOp .. | .nilCheck _| .index ..
 | .load .. | .lookup .. | .indexAddr .. | .slice .. | .convert ..=>0
 | .call {callee:=.builtin .len, ..}| .call {callee:=.builtin .cap, ..}=>0
 | .call {callee:=.value _, ..}=>2
 |_=>1
def wK:List Operand->lba
 |[]=>[]
 | .tmp t::r=>t::wK r
 |_::r=>wK r
def dE:Op->lba
 | .move _| .assign _| .pick .. | .build .. | .buildSlice .. | .fieldAddr .. | .field .. | .extract .. | .makeFunc .. | .makeInterface .. | .binOp .. | .unOp .. | .nilCheck _| .index .. | .alloc _| .box ..=>[]
 | .call {callee:=.builtin .len,args, ..}=>(wK args.toList).map (· +100000)
 | .store _ a _=>wK [a]
 | .mapUpdate _ m _ _| .insert _ m _ _=>wK [m]
 |op=>wK op.operands.toList
structure DOper where
 r:ROper
 look:lba
 foot:lba
 kind:Nat
 mask:Nat
def b7(F:Fr):lba->Tr AV->Tr AV
 |[],t=>t
 |x::r,t=>b7 F r (match F.get x,Nat.blt x 60000 with|some v,true=>t.set 16 x v|_,_=>t)
def cb(F:Fr):lba->laf
 |[]=>[]
 | x::r=>match Nat.ble 100000 x with
  |true=>match F.get (x-100000)with
   |some (.map id)=>id::cb F r
   |_=>cb F r
  |false=>match F.get x with
   |some (.ptr id ..)|some (.slice id ..)|some (.map id)|some (.sl0 id ..)=>id::cb F r
   |_=>cb F r
def bL(h:AHeap):laf->Tr AObj->Tr AObj
 |[],t=>t
 |id::r,t=>bL h r (match h.get id with|some o=>t.set 20 id o|none=>t)
def iT(F:Fr)(n:Nat):lba->Bool
 |[]=>true
 |x::r=>(match F.get x with|some v=>Nat.ble v.top n|none=>true)&&iT F n r
def pn(h:AHeap)(n:Nat):laf->Bool
 |[]=>true
 |id::r=>(match h.get id with|some o=>Nat.ble o.top n|none=>true)&&pn h n r
def laid(hv h':AHeap):laf->AHeap->lbd
 |[],H=>some H
 |id::r,H=>match hv.get id,h'.get id with
  |some _,some o=>laid hv h' r (H.put id o)
  |none,_=>laid hv h' r H
  |some _,none=>none
def FW(h h':AHeap)(H:AHeap):lbd:=
 match Nat.beq h'.n h.n with
 |true=>some H
 |false=>match Nat.beq h'.n (h.n+1),h'.get h.n with
  |true,some o=>some (H.push o)
  |_,_=>none
mutual
def AV.same:AV->AV->Bool
 | .bool a,.bool b=>(a&&b)||(!a&& !b)
 | .int j a,.int k b=>lX j k&&ae a b
 | .str a,.str b=>ei a b
 | .nilp,.nilp | .nils,.nils | .nilm,.nilm | .nilf,.nilf | .nili,.nili=>true
 | .ptr a b c d,.ptr a' b' c' d'=>Nat.beq a a'&&Nat.beq b b'&&Nat.beq c c'&&Nat.beq d d'
 | .map a,.map b=>Nat.beq a b
 | .slice a b c d e,.slice a' b' c' d' e'=>Nat.beq a a'&&Nat.beq b b'&&Nat.beq c c'&&Nat.beq d d'&&oI e e'
 | .ps xs a,.ps ys b=>gS xs ys&&((a&&b)||(!a&& !b))
 | .ls xs,.ls ys=>gS xs ys
 | .pptr xs a b,.pptr ys c d=>gS xs ys&&Nat.beq a c&&Nat.beq b d
 | .iface t v,.iface u w=>Nat.beq t u&&AV.same v w
 | .agg a,.agg b=>gS a b
 | .tuple a,.tuple b=>gS a b
 | .func (.func f) a b,.func (.func g) c d=>Nat.beq f g&&gS a c&&gS b d
 |_,_=>false
def gS:laa->laa->Bool
 |[],[]=>true
 |a::as,b::bs=>AV.same a b&&gS as bs
 |_,_=>false
end
def o7:laq->laq->Bool
 |[],[]=>true
 |a::as,b::bs=>AV.same a.key b.key&&AV.same a.val b.val&&Nat.beq a.born b.born&&o7 as bs
 |_,_=>false
def AObj.same:AObj->AObj->Bool
 | .dead,.dead=>true
 | .row a b c xs,.row a' b' c' xs'=>Nat.beq a a'&&((b&&b')||(!b&& !b'))&&Nat.beq c c'&&gS xs xs'
 | .map es c,.map es' c'=>Nat.beq c c'&&o7 es es'
 |_,_=>false
def wx(h h':AHeap):Nat->Bool
 |0=>true
 | k+1=>match h'.get k with
  |none=>match h.get k with|none=>wx h h' k|some _=>false
  |some o'=>match h.get k with
   |some o=>match AObj.same o o' with|true=>wx h h' k|false=>false
   |none=>false
abbrev CC:=Option (AV×AHeap×Rec)
def qz(F:Fr)(h:AHeap)(d:DOper)(ids:laf):CC:=
 match d.r.op.run ⟨F.n,b7 F d.look .nil⟩ ⟨1000000,bL h ids .nil⟩with
 |some (.val v _)=>some (v,h,⟨⟨false,ids,0,0⟩,⟨false,[],0,0⟩⟩)
 |_=>none
def lw(h hv:AHeap)(ids:laf):lay->CC
 | some (.val v h')=>match laid hv h' ids h with
  |some H=>match FW h h' H with
   |some H=>some (v,H,⟨⟨false,ids,0,0⟩,⟨false,ids,h.n,h'.n⟩⟩)
   |none=>none
  |none=>none
 |_=>none
def nH(F:Fr)(h:AHeap)(d:DOper)(ids:laf)(hv:AHeap):CC:=lw h hv ids (d.r.op.run ⟨F.n,b7 F d.look .nil⟩ hv)
def pR(F:Fr)(h:AHeap)(d:DOper)(ids:laf):CC:=
 match iT F h.n d.look&&pn h h.n ids with
 |true=>nH F h d ids ⟨h.n,bL h ids .nil⟩
 |false=>none
def oX(h h':AHeap):Nat->Bool
 |0=>true
 |k+1=>match h'.get k with
  |none=>oX h h' k
  |some _=>match h.get k with|some _=>oX h h' k|none=>false
def vg(h h':AHeap)(v:AV)(b:Bool):CC:=some (v,h',⟨⟨true,[],h.n,h.n⟩,⟨b,[],h.n,h'.n⟩⟩)
def Bp(h:AHeap):Option (AV×AHeap)->CC
 | some (v,h')=>match Nat.ble h.n h'.n with
  |true=>match wx h h' h.n with
   |true=>vg h h' v false
   |false=>match oX h h' h.n with|true=>vg h h' v true|false=>none
  |false=>none
 |none=>none
def NS(call:cn)(F:Fr)(h:AHeap)(d:DOper):CC:=
 match iT F h.n d.look&&fH h h.n h.n with
 |true=>Bp h (behind call h (d.r.op.run ⟨F.n,b7 F d.look .nil⟩ h))
 |false=>none
def Fi(call:cn)(F:Fr)(h:AHeap)(d:DOper):CC:=
 match eO ⟨F.n,b7 F d.look .nil⟩ d.r.g with
 |some true=>match d.kind with
  |0=>qz F h d (cb F d.foot)
  |1=>pR F h d (cb F d.foot)
  |_=>NS call F h d
 |some false=>some (gh,h,⟨⟨false,[],0,0⟩,⟨false,[],0,0⟩⟩)
 |none=>none
def lm(mask:Nat)(r:Rec):List Rec->Nat->Bool
 |[],_=>true
 |q::qs,k=>((!(q.wr.meets r.vis||r.wr.meets q.vis||q.wr.meets r.wr))||Nat.testBit mask (k-1))&&lm mask r qs (k-1)
structure RDraw where
 run:cn->Fr->AHeap->List Rec->Nat->lbb
def Tv(d:DOper)(F:Fr)(rs:List Rec)(k:Nat)(go:Fr->AHeap->List Rec->Nat->lbb):CC->lbb
 |some (v,h',r)=>match lm d.mask r rs k with
  |true=>match jU F d.r.dst v with|some F'=>go F' h' (r::rs) (k+1)|none=>none
  |false=>none
 |none=>none
def rm:List DOper->RDraw
 |[]=>⟨λ_ F h _ _=>some ⟨F,h⟩⟩
 |d::r=>⟨λcall F h rs k=>Tv d F rs k ((rm r).run call) (Fi call F h d)⟩
def iL:List Edge->laf
 |[]=>[]
 |e::r=>match Region.binds .any e with|true=>e.on::iL r|false=>iL r
def fV(masks:List (Nat×Nat))(d:Nat):Nat:=
 match masks with
 |[]=>0
 |p::r=>match Nat.beq p.1 d with|true=>p.2|false=>fV r d
def tD(masks:List (Nat×Nat)):laf->Nat
 |[]=>0
 |d::r=>Nat.lor (Nat.lor (2^d) (fV masks d)) (tD masks r)
def eb:las->Nat->List (Nat×Nat)->List (Nat×Nat)
 |[],_,acc=>acc
 |o::r,i,acc=>eb r (i+1) ((i,tD acc (iL o.after.toList))::acc)
def mW(i:Nat):laf->Bool
 |[]=>true
 |d::r=>Nat.blt d i&&mW i r
def sW(masks:List (Nat×Nat))(deps:laf)(look:lba)(j:Nat):las->Nat->Bool
 |[],_=>true
 |o::r,i=>(match o.dst with
  |none=>true
  |some t=>!ja t look||Nat.beq i j||ja i deps||Nat.testBit (fV masks i) j)&&sW masks deps look j r (i+1)
def Bl:las->Bool
 |[]=>true
 |o::r=>(match o.dst with|some t=>(r.all λq=>(match q.dst with|some u=>!Nat.beq t u|none=>true))|none=>true)&&Bl r
def nq(P:Program)(G:fz)(ops:Array Oper)(masks:List (Nat×Nat)):las->Nat->Option (List DOper)
 |[],_=>some []
 | o::r,i=>
  match mW i (iL o.after.toList)&&sW masks (iL o.after.toList) (o.looksAt ops) i ops.toList 0 with
  |true=>match nq P G ops masks r (i+1)with
   |some l=>some (⟨bR P G ops o,o.looksAt ops,dE o.op,da o.op,fV masks i⟩::l)
   |none=>none
  |false=>none
def uo:lbb->lbb
 |some s=>match Nat.ble s.heap.n 1000000 with|true=>some s|false=>none
 |none=>none
def Fg(P:Program)(G:fz)(ops:Array Oper):ROps:=
 match Bl ops.toList&&Region.noSelect ops with
 |true=>match nq P G ops (eb ops.toList 0 []) ops.toList 0 with
  |some l=>⟨λcall s=>uo ((rm l).run call s.tmps s.heap [] 0)⟩
  |none=>⟨λ_ _=>none⟩
 |false=>⟨λ_ _=>none⟩
def Rr:lbb->Option (AExit×St)
 |some s=>some (.normal,s)
 |none=>none
def oL(k:St->Option (AExit×St)):Option (AExit×St)->Option (AExit×St)
 |some (.normal,s)=>k s
 |r=>r
def rounds(body:St->Option (AExit×St))(n:Nat):St->Option (AExit×St):=@Nat.rec (λ_=>St->Option (AExit×St)) (λ_=>none) (λ_ ih s=>oL ih (body s)) n
def inBlock(id:Nat):Option (AExit×St)->Option (AExit×St)
 |some (.exit id',s)=>match Nat.beq id' id with|true=>some (.normal,s)|false=>some (.exit id',s)
 |r=>r
def L3(b:RCode)(call:cn):Option (AExit×St)->Option (AExit×St)
 |some (.normal,s)=>b.run call s
 |r=>r
def Tc(a b:RCode)(call:cn)(s:St):lae->Option (AExit×St)
 |some (.bool true)=>a.run call s
 |some (.bool false)=>b.run call s
 |_=>none
def eE(P:Program)(G:fz)(n:Nat):Code->RCode
 | .skip | .label _=>⟨λ_ s=>some (.normal,s)⟩
 | .region _ ops draw=>match draw with
  |false=>⟨λcall s=>Rr ((AW P G ops ops.toList).run call s)⟩
  |true=>⟨λcall s=>Rr ((Fg P G ops).run call s)⟩
 | .seq a b=>⟨λcall s=>L3 (eE P G n b) call ((eE P G n a).run call s)⟩
 | .cond c a b=>⟨λcall s=>Tc (eE P G n a) (eE P G n b) call s ((cA G c).run s.tmps)⟩
 | .block id b=>⟨λcall s=>inBlock id ((eE P G n b).run call s)⟩
 | .loop b=>⟨λcall s=>rounds ((eE P G n b).run call) n s⟩
 | .exit id=>⟨λ_ s=>some (.exit id,s)⟩
 | .scope b=>⟨λcall s=>(eE P G n b).run call s⟩
 | .ret=>⟨λ_ s=>some (.ret,s)⟩
 |_=>⟨λ_ _=>none⟩
structure RRes where
 run:Fr->AHeap->lae
def UO(P:Program):ResultVar->RRes
 | .tmp t=>⟨λA _=>A.get t⟩
 | .cell a t=>match dW P t,dV P t with
  |some ag,some n=>⟨λA h=>AM ag n h (A.get a)⟩
  |_,_=>⟨λ_ _=>none⟩
def fh(P:Program):List ResultVar->Fr->AHeap->lbh
 |[],_,_=>some []
 |x::r,A,h=>match(UO P x).run A h with
  |some v=>match fh P r A h with|some vs=>some (v::vs)|none=>none
  |none=>none
def fw:lbh->lae
 |some [v]=>some v
 |some vs=>some (.tuple vs)
 |none=>none
def ib(n:Nat):laa->Nat->Tr AV->Tr AV
 |[],_,t=>t
 |x::r,i,t=>ib n r (i+1) (t.set 16 i x)
structure RFunc where
 n:Nat
 body:RCode
 res:List ResultVar
def Ss(C:Cfg)(f:FuncId):Option RFunc:=
 match C.P.funcs[f]? with
 |some fn=>match fn.body with
  |some c=>some ⟨fn.ntmps,eE C.P C.G C.rounds c,fn.results.toList⟩
  |none=>none
 |none=>none
def FX(pol:Nat)(n:Nat)(h:AHeap):lae->Option (AV×AHeap)
 |some v=>some (gJ pol n v h)
 |none=>none
def Zx(C:Cfg)(f:FuncId)(n:Nat)(res:List ResultVar):Option (AExit×St)->Option (AV×AHeap)
 |some (.exit _,_)|none=>none
 |some (_,s)=>FX (C.pol f) n s.heap (fw (fh C.P res s.tmps s.heap))
def Bg(C:Cfg)(call:cn)(f:FuncId)(args:laa)(h:AHeap):Option RFunc->Option (AV×AHeap)
 |some R=>match Nat.ble args.length R.n&&Nat.ble R.n 60000 with
  |true=>Zx C f h.n R.res (R.body.run call ⟨⟨R.n,ib R.n args 0 .nil⟩,h⟩)
  |false=>none
 |none=>none
def ET(C:Cfg)(call:cn)(f:FuncId)(args:laa)(h:AHeap):Option (AV×AHeap)->Option (AV×AHeap)
 |some r=>some r
 |none=>Bg C call f args h (Ss C f)
def fF(C:Cfg)(k:Nat):cn:=@Nat.rec (λ_=>cn) (λ_ _ _=>none) (λ_ ih f args h=>ET C ih f args h (C.hook f args h)) k
end
structure Place where
 blk:Nat
 ep:Nat
 sz:Nat
 n:Nat
 tot:Nat
abbrev Pl:=Nat->Option Place
abbrev dN:=Nat->Option (Array Value)
def dq:AV->Bool
 | .agg _| .tuple _=>false
 |_=>true
def Sc(x:AV):Prop:=∀y,y∈x.cells->dq y=true
inductive VRel(pl:Pl)(M:dN):AV->Value->Prop
 |bool (b:Bool):VRel pl M (.bool b) (.bool b)
 |int (k:IntKind) (n:Int):VRel pl M (.int k n) (.int k n)
 |str (s:lar):VRel pl M (.str s) (.string ⟨⟨s⟩⟩)
 |nilp:VRel pl M .nilp (.pointer none)
 | ptr {id ep i off:Nat} {a:Addr} {p:Place} (hp:pl id=some p) (he:ep<=p.ep)
   (ha:ep=p.ep->a=⟨p.blk,i*p.sz+off,none⟩):VRel pl M (.ptr id ep i off) (.pointer (some a))
 | pptr {xs:laa} {i off:Nat} {a:Addr} {sz:Nat} {c:Array Value} (hm:a.spot=none/\M a.block=some c/\a.off+xs.length*sz<=c.size/\0<sz)
   (hs:∀x,x∈xs->x.cells.length=sz/\Sc x) (hi:i<xs.length)
   (hc:∀i x j y,xs[i]?=some x->x.cells[j]?=some y->VRel pl M y (c.getD (a.off+i*sz+j) undef)):
   VRel pl M (.pptr xs i off) (.pointer (some ⟨a.block,a.off+i*sz+off,none⟩))
 |nils:VRel pl M .nils (.slice none 0 0)
 | slice {id ep off len cap':Nat} {cap:lan} {a:Addr} {p:Place} (hp:pl id=some p) (he:ep<=p.ep) (hl:len<=cap')
   (hk:∀k,cap=some k->cap'=k)
   (ha:ep=p.ep->(cap'=0\/a=⟨p.blk,off*p.sz,none⟩)/\(off+cap')*p.sz<=p.tot/\off+len<=p.n/\(cap=none->p.n<=off+cap')/\(∀k,cap=some k->off+k<=p.n)):
   VRel pl M (.slice id ep off len cap) (.slice (some a) len cap')
 |sl0n {id ep:Nat} {cap:lan} {x:Value} (h:VRel pl M (.ls []) x):VRel pl M (.sl0 id ep 0 cap) x
 |sl0s {id ep len:Nat} {cap:lan} {x:Value} (h:VRel pl M (.slice id ep 0 len cap) x):VRel pl M (.sl0 id ep len cap) x
 | ps {xs:laa} {tight:Bool} {a:Addr} {cap sz:Nat} {c:Array Value} (hl:xs.length<=cap) (ht:tight=true->cap=xs.length)
   (hm:xs≠[]->a.spot=none/\M a.block=some c/\a.off+xs.length*sz<=c.size/\0<sz)
   (hs:∀x,x∈xs->x.cells.length=sz/\Sc x)
   (hc:∀i x j y,xs[i]?=some x->x.cells[j]?=some y->VRel pl M y (c.getD (a.off+i*sz+j) undef)):
   VRel pl M (.ps xs tight) (.slice (some a) xs.length cap)
 |lsn:VRel pl M (.ls []) (.slice none 0 0)
 |lsp {xs:laa} {x:Value} (h:VRel pl M (.ps xs false) x) (ht:az xs=0):VRel pl M (.ls xs) x
 |nilm:VRel pl M .nilm (.map none)
 |map {id r:Nat} {p:Place} (hp:pl id=some p) (ha:p.ep=0->r=p.blk):VRel pl M (.map id) (.map (some r))
 | func {fn:Fn} {as bs:laa} {vs ws:Array Value} (h1:as.length=vs.size) (h2:bs.length=ws.size)
   (h3:∀j y,as[j]?=some y->VRel pl M y (vs.getD j undef)) (h4:∀j y,bs[j]?=some y->VRel pl M y (ws.getD j undef)):VRel pl M (.func fn as bs) (.func fn vs ws)
 |nilf:VRel pl M .nilf .nilFunc
 |iface {t:TypeId} {v:AV} {x:Value} (h:VRel pl M v x):VRel pl M (.iface t v) (.iface t x)
 |nili:VRel pl M .nili .nilIface
 | agg {as:laa} {vs:Array Value} (h1:as.length=vs.size) (h2:∀y,y∈as->dq y=true)
   (h3:∀j y,as[j]?=some y->VRel pl M y (vs.getD j undef)):VRel pl M (.agg as) (.agg vs)
 | tuple {as:laa} {vs:Array Value} (h1:as.length=vs.size)
   (h3:∀j y,as[j]?=some y->VRel pl M y (vs.getD j undef)):VRel pl M (.tuple as) (.tuple vs)
theorem acm{a b:Nat}:Nat.mx a b=0↔a=0/\b=0:=by
 unfold Nat.mx;cases h:Nat.ble a b with
 |true=>have:=wQ h;grind
 |false=>grind[Nat.ble_eq_true_of_le]
theorem ke:∀{xs:laa},az xs=0↔∀x,x∈xs->x.top=0
 |[]=>by simp[az]
 |x::r=>by simp only[az,acm,ke (xs:=r),dO,forall_eq_or_imp]
structure VRels(pl:Pl)(M:dN)(as:laa)(vs:Array Value):Prop where
 len:as.length=vs.size
 at_:∀j y,as[j]?=some y->VRel pl M y (vs.getD j undef)
structure InMem(pl:Pl)(M:dN)(c:Array Value)(o sz:Nat)(xs:laa):Prop where
 fit:o+xs.length*sz<=c.size
 elem:∀x,x∈xs->x.cells.length=sz/\Sc x
 cell:∀i x j y,xs[i]?=some x->x.cells[j]?=some y->VRel pl M y (c.getD (o+i*sz+j) undef)
def bm(pl:Pl)(M:dN)(p:Place):AObj->Option Obj->Prop
 | .dead,_=>True
 | .row sz op ep xs,some (.cells c _ fr)=>p.ep=ep/\p.sz=sz/\p.n=xs.length/\p.tot=c.size/\fr=(0,0)/\0<sz/\(op=false->c.size=xs.length*sz)/\InMem pl M c 0 sz xs
 | .map es clock,some (.map entries clock')=>p.ep=0/\clock'=clock/\es.length=entries.size/\
   ∀(i:Nat)(e:AEnt),es[i]?=some e->∃e':MapEntry,entries[i]?=some e'/\VRel pl M e.key e'.key/\VRel pl M e.val e'.val/\e'.born=e.born
 | .siter s pos,some (.stringIter s' pos')=>p.ep=0/\p.sz=1/\s'=⟨⟨s⟩⟩/\pos'=pos
 | .miter m clock seen,some (.mapIter m' since seen' stepped)=>p.ep=0/\p.sz=1/\VRel pl M m (.map m')/\since=clock/\stepped=clock/\seen'.toList=seen
 |_,_=>False
structure RepF(pl:Pl)(M:dN)(n:Nat)(g:Nat->lav)(w:World):Prop where
 dom:∀id p,pl id=some p->id<n
 obj:∀id p o,pl id=some p->g id=some o->bm pl M p o w.heap[p.blk]?
 blk:∀id p,pl id=some p->p.blk<w.heap.size
 inj:∀id id' p p',pl id=some p->pl id'=some p'->p.blk=p'.blk->id=id'
 imm:∀b c,M b=some c->∃t fr,w.heap[b]?=some (.cells c t fr)
 sep:∀id p,pl id=some p->M p.blk=none
abbrev cS(pl:Pl)(M:dN)(h:AHeap)(w:World):Prop:=RepF pl M h.n h.get w
def Uz(pl:Pl)(M:dN)(g:Nat)(x:AV):Prop:=VRel pl M (.pptr [x] 0 0) (.pointer (some ⟨g,0,none⟩))/\∃c,M g=some c/\c.size=x.cells.length
def qc(G:fz)(pl:Pl)(M:dN):Prop:=∀g x,G g=some x->Uz pl M g x
def nS(pl pl':Pl):Prop:=∀id p,pl id=some p->∃p',pl' id=some p'/\p.ep<=p'.ep/\(p.ep=p'.ep->p'=p)
def qo(M M':dN):Prop:=∀b c,M b=some c->M' b=some c
structure StepF(n:Nat)(g:Nat->lav)(pl:Pl)(M:dN)(w:World)(g':Nat->lav)(pl':Pl)(M':dN)(w':World):Prop where
 ext:nS pl pl'
 new:∀id,id<n->pl id=none->pl' id=none
 mem:qo M M'
 size:w.heap.size<=w'.heap.size
 kept:∀b,b<w.heap.size->(∀id p,pl id=some p->g id≠none->p.blk≠b)->w'.heap[b]?=w.heap[b]?
 blks:∀id p',pl' id=some p'->(∃p,pl id=some p/\p.blk=p'.blk)\/w.heap.size<=p'.blk
 live:∀id p,pl id=some p->g id=none->g' id=none
 stay:∀id p,pl id=some p->g id=none->pl' id=some p
 memNew:∀b c,M' b=some c->M b=some c\/w.heap.size<=b
 os:w'.os=w.os
 tape:w'.tape=w.tape
 out:w'.output=w.output
 drawn:w.drawn<=w'.drawn
abbrev dK(h:AHeap)(pl:Pl)(M:dN)(w:World)(h':AHeap)(pl':Pl)(M':dN)(w':World):Prop:=StepF h.n h.get pl M w h'.get pl' M' w'
theorem nS.refl(pl:Pl):nS pl pl:=λ_ p h=>⟨p,h,ar _,λ_=>rfl⟩
theorem nS.trans{a b c:Pl}(h:nS a b)(k:nS b c):nS a c:=λid p hp=>by
 obtain⟨p',h1,h2,h3⟩:=h id p hp;obtain⟨p'',k1,k2,k3⟩:=k id p' h1;grind
theorem StepF.refl(n:Nat)(g:Nat->lav)(pl:Pl)(M:dN)(w:World):StepF n g pl M w g pl M w:=⟨nS.refl _,λ_ _ h=>h,λ_ _ h=>h,ar _,λ_ _ _=>rfl,λid p h=>.inl ⟨p,h,rfl⟩,λ_ _ _ h=>h,λ_ _ h _=>h,λ_ _ h=>.inl h,rfl,rfl,rfl,ar _⟩
theorem dK.refl(h:AHeap)(pl:Pl)(M:dN)(w:World):dK h pl M w h pl M w:=StepF.refl _ _ _ _ _
theorem StepF.trans{n m:Nat}{g g' g'':Nat->lav}{pl pl' pl'':Pl}{M M' M'':dN}{w w' w'':World}(h:StepF n g pl M w g' pl' M' w')(k:StepF m g' pl' M' w' g'' pl'' M'' w'')(hnm:n<=m):
  StepF n g pl M w g'' pl'' M'' w'':=by
 refine⟨h.ext.trans k.ext,λid hid hp=>k.new id (by omega) (h.new id hid hp),λb c hb=>k.mem b c (h.mem b c hb),b0 h.size k.size,λb hb hn=>?_,λid p' hp'=>?_,λid p hp hg=>?_,λid p hp hg=>?_,λb c hb=>?_,k.os.trans h.os,k.tape.trans h.tape,k.out.trans h.out,b0 h.drawn k.drawn⟩;all_goals grind[cases StepF]
theorem dK.trans{h h' h'':AHeap}{pl pl' pl'':Pl}{M M' M'':dN}{w w' w'':World}(a:dK h pl M w h' pl' M' w')(b:dK h' pl' M' w' h'' pl'' M'' w'')(hnm:h.n<=h'.n):dK h pl M w h'' pl'' M'' w'':=StepF.trans a b hnm
theorem VRel.mono{pl pl':Pl}{M M':dN}{v:AV}{x:Value}(h:VRel pl M v x)(he:nS pl pl')(hm:qo M M'):VRel pl' M' v x:=by
 induction h with
 |bool b=>exact .bool b
 |int k n=>exact .int k n
 |str s=>exact .str s
 |nilp=>exact .nilp
 |ptr hp hle ha=>
  obtain⟨p',h1,h2,h3⟩:=he _ _ hp;refine .ptr h1 (by omega) λe=>?_
  grind
 |pptr hm' hs hi hc ih=>exact .pptr ⟨hm'.1,hm _ _ hm'.2.1,hm'.2.2⟩ hs hi ih
 |nils=>exact .nils
 |slice hp hle hl hk ha=>
  obtain⟨p',h1,h2,h3⟩:=he _ _ hp;refine .slice h1 (by omega) hl hk λe=>?_
  grind
 |sl0n _ ih=>exact .sl0n ih
 |sl0s _ ih=>exact .sl0s ih
 |ps hl ht hm' hs hc ih=>exact .ps hl ht (λh=>⟨(hm' h).1,hm _ _ (hm' h).2.1,(hm' h).2.2⟩) hs ih
 |lsn=>exact .lsn
 |lsp _ ht ih=>exact .lsp ih ht
 |nilm=>exact .nilm
 |map hp ha=>
  obtain⟨p',h1,h2,h3⟩:=he _ _ hp;refine .map h1 λe=>?_
  simp_all
 |func h1 h2 _ _ ih1 ih2=>exact .func h1 h2 ih1 ih2
 |nilf=>exact .nilf
 |iface _ ih=>exact .iface ih
 |nili=>exact .nili
 |agg h1 h2 _ ih=>exact .agg h1 h2 ih
 |tuple h1 _ ih=>exact .tuple h1 ih
theorem InMem.mono{pl pl':Pl}{M M':dN}{c:Array Value}{o sz:Nat}{xs:laa}(h:InMem pl M c o sz xs)(he:nS pl pl')(hm:qo M M'):InMem pl' M' c o sz xs:=⟨h.fit,h.elem,λi x j y h1 h2=>(h.cell i x j y h1 h2).mono he hm⟩
theorem bm.mono{pl pl':Pl}{M M':dN}{p:Place}{o:AObj}{x:Option Obj}(h:bm pl M p o x)(he:nS pl pl')(hm:qo M M'):bm pl' M' p o x:=by
 match o,x with
 | .dead,_=>trivial
 | .row sz op ep xs,some (.cells c t fr)=>
  obtain⟨h1,h2,h3,h4,h5,h6,h7,h8⟩:=h;exact⟨h1,h2,h3,h4,h5,h6,h7,h8.mono he hm⟩
 | .map es clock,some (.map entries clock')=>
  obtain⟨h1,h2,h3,h4⟩:=h;refine⟨h1,h2,h3,λi e hi=>?_⟩;obtain⟨e',k1,k2,k3,k4⟩:=h4 i e hi;exact⟨e',k1,k2.mono he hm,k3.mono he hm,k4⟩
 | .siter s pos,some (.stringIter s' pos')=>exact h
 | .miter m clock seen,some (.mapIter m' since seen' stepped)=>exact⟨h.1,h.2.1,h.2.2.1.mono he hm,h.2.2.2⟩
theorem qc.mono{G:fz}{pl pl':Pl}{M M':dN}(h:qc G pl M)(he:nS pl pl')(hm:qo M M'):qc G pl' M':=λg x hg=>⟨(h g x hg).1.mono he hm,by obtain⟨c,h1,h2⟩:=(h g x hg).2;exact⟨c,hm _ _ h1,h2⟩⟩
structure FrRel(pl:Pl)(M:dN)(A:Fr)(a:Act):Prop where
 size:a.tmps.size=A.n
 defers:a.defers=[]
 at_:∀t v,A.get t=some v->t<A.n/\VRel pl M v (a.tmps.getD t undef)
theorem FrRel.mono{pl pl':Pl}{M M':dN}{A:Fr}{a:Act}(h:FrRel pl M A a)(he:nS pl pl')(hm:qo M M'):FrRel pl' M' A a:=⟨h.size,h.defers,λt v ht=>⟨(h.at_ t v ht).1,(h.at_ t v ht).2.mono he hm⟩⟩
section
variable{α:Type}
theorem f8(n:Nat):(Tr.nil:Tr α).get n=none:=rfl
theorem mU(l r:Tr α)(v:Option α):(Tr.node l v r).get 0=v:=rfl
theorem fq(l r:Tr α)(v:Option α)(m:Nat):(Tr.node l v r).get (m+1)=if m%2=0 then l.get (m/2)else r.get (m/2):=by
 show @Nat.casesOn (λ_=>Option α) (m%2) (l.get (m/2)) (λ_=>r.get (m/2))=_
 rcases Nat.mod_two_eq_zero_or_one m with h|h<;>rw[h]<;>rfl
theorem yu(d:Nat)(x:α):Tr.set (d+1) .nil 0 x=.node .nil (some x) .nil:=rfl
theorem yA(d m:Nat)(x:α):Tr.set (d+1) .nil (m+1) x=if m%2=0 then .node (Tr.set d .nil (m/2) x) none .nil else .node .nil none (Tr.set d .nil (m/2) x):=by
 show @Nat.casesOn (λ_=>Tr α) (m%2) (.node (Tr.set d .nil (m/2) x) none .nil) (λ_=>.node .nil none (Tr.set d .nil (m/2) x))=_
 rcases Nat.mod_two_eq_zero_or_one m with h|h<;>rw[h]<;>rfl
theorem pW(d:Nat)(l r:Tr α)(v:Option α)(x:α):Tr.set (d+1) (.node l v r) 0 x=.node l (some x) r:=rfl
theorem pJ(d m:Nat)(l r:Tr α)(v:Option α)(x:α):Tr.set (d+1) (.node l v r) (m+1) x=if m%2=0 then .node (Tr.set d l (m/2) x) v r else .node l v (Tr.set d r (m/2) x):=by
 show @Nat.casesOn (λ_=>Tr α) (m%2) (.node (Tr.set d l (m/2) x) v r) (λ_=>.node l v (Tr.set d r (m/2) x))=_
 rcases Nat.mod_two_eq_zero_or_one m with h|h<;>rw[h]<;>rfl
theorem jW(d:Nat):∀(t:Tr α)(n:Nat)(x:α)(m:Nat)(y:α),n+1<2^d->(Tr.set d t n x).get m=some y->(m=n/\y=x)\/(m≠n/\t.get m=some y):=by
 induction d with
 |zero=>omega
 | succ d ih=>
  intro t n x m y hn h;have hn2:∀k,n=k+1->k/2+1<2^d:=by omega
  cases t with
  | nil=>
   cases n with
   |zero=>
    rw[yu]at h;cases m with
    |zero=>rw[mU]at h;simp_all
    |succ m=>grind[fq,f8]
   | succ n=>
    have hb:=hn2 n rfl;rw[yA]at h;cases m with
    |zero=>grind[mU]
    | succ m=>
     by_cases hn:n%2=0
     ·rw[if_pos hn,fq]at h;by_cases hm:m%2=0
      ·grind[f8]
      ·grind[f8]
     ·rw[if_neg hn,fq]at h;by_cases hm:m%2=0
      ·grind[f8]
      ·grind[f8]
  | node l v r=>
   cases n with
   |zero=>
    rw[pW]at h;cases m with
    |zero=>rw[mU]at h;simp_all
    |succ m=>grind[fq]
   | succ n=>
    have hb:=hn2 n rfl;rw[pJ]at h;cases m with
    |zero=>grind[mU]
    |succ m=>
     rw[fq];by_cases hn:n%2=0
     ·rw[if_pos hn,fq]at h;grind
     ·rw[if_neg hn,fq]at h;grind
end
theorem dG(a b:Nat):Nat.blt a b=decide (a<b):=by rw[zd,decide_eq_true_iff,Nat.blt_eq]
theorem bd(a b:Nat):Nat.ble a b=decide (a<=b):=by rw[zd,decide_eq_true_iff,Nat.ble_eq]
theorem aD(a b:Nat):Nat.beq a b=decide (a=b):=by rw[zd,decide_eq_true_iff,Nat.beq_eq]
theorem AHeap.get_some{h:AHeap}{id:Nat}{o:AObj}:h.get id=some o↔id<h.n/\id<1000000/\h.t.get id=some o:=by grind[AHeap.get,dG,id]
theorem dh{h:AHeap}{o o':AObj}{id:Nat}(hg:(h.push o).get id=some o'):(id=h.n/\o'=o)\/(id<h.n/\h.get id=some o'):=by
 rw[AHeap.get_some]at hg;obtain⟨h1,h2,h3⟩:=hg;simp only[AHeap.push,dG]at h1 h3;by_cases hn:h.n<1000000
 ·simp only[hn,decide_true]at h3;rcases jW 20 h.t h.n o id o' (by omega) h3 with⟨e,k⟩|⟨e,k⟩
  ·simp_all
  ·exact .inr ⟨by omega,AHeap.get_some.2 ⟨by omega,h2,k⟩⟩
 ·simp only[hn,decide_false]at h3;exact .inr ⟨by omega,AHeap.get_some.2 ⟨by omega,h2,h3⟩⟩
theorem AHeap.get_put{h:AHeap}{o o':AObj}{id k:Nat}(hn:id<1000000)(hg:(h.put id o).get k=some o'):(k=id/\o'=o)\/(k≠id/\h.get k=some o'):=by
 rw[AHeap.get_some]at hg;obtain⟨h1,h2,h3⟩:=hg;simp only[AHeap.put]at h1 h3;rcases jW 20 h.t id o k o' (by omega) h3 with⟨e,q⟩|⟨e,q⟩
 ·simp_all
 ·exact .inr ⟨e,AHeap.get_some.2 ⟨h1,h2,q⟩⟩
theorem iE{h:AHeap}{o:AObj}{id n:Nat}(hn:n<=h.n)(hg:(h.cut n).get id=some o):id<n/\h.get id=some o:=by
 rw[AHeap.get_some]at hg;obtain⟨h1,h2,h3⟩:=hg;simp only[AHeap.cut]at h1 h3;exact⟨h1,AHeap.get_some.2 ⟨by omega,h2,h3⟩⟩
theorem Fr.get_put{A A':Fr}{i j:Nat}{v u:AV}(hn:A.n<=60000)(hp:A.put i v=some A')(hg:A'.get j=some u):A'.n=A.n/\i<A.n/\((j=i/\u=v)\/(j≠i/\A.get j=some u)):=by
 unfold Fr.put at hp;rcases hb:Nat.blt i A.n with _|_<;>simp only[hb,zc,reduceCtorEq]at hp
 subst hp;have hi:i<A.n:=by simp_all
 exact⟨rfl,hi,jW 16 A.t i v j u (by omega) hg⟩
end Go.Ev
namespace Go.Ev
open Go
def upd(pl:Pl)(id:Nat)(p:Place):Pl:=λk=>if k=id then some p else pl k
def zu(M:dN)(b:Nat)(c:Array Value):dN:=λk=>if k=b then some c else M k
theorem eY(pl:Pl)(id:Nat)(p:Place):upd pl id p id=some p:=by simp[upd]
theorem dj{pl:Pl}{id k:Nat}{p:Place}(h:k≠id):upd pl id p k=pl k:=by grind[upd]
structure WSame(w w':World):Prop where
 os:w'.os=w.os
 tape:w'.tape=w.tape
 out:w'.output=w.output
 drawn:w.drawn<=w'.drawn
theorem WSame.refl(w:World):WSame w w:=⟨rfl,rfl,rfl,ar _⟩
section
variable{pl:Pl}{M:dN}{h:AHeap}{w w':World}{G:fz}
theorem cS.memLt(hr:cS pl M h w){b:Nat}{c:Array Value}(hb:M b=some c):b<w.heap.size:=by
 obtain⟨t,fr,h1⟩:=hr.imm b c hb;grind
theorem cS.memNone(hr:cS pl M h w){b:Nat}(hb:w.heap.size<=b):M b=none:=by
 cases hm:M b with
 |none=>rfl
 |some c=>have:=hr.memLt hm;omega
theorem G5{a:Array Obj}{o:Obj}{b:Nat}(hb:b<a.size):(a.push o)[b]?=a[b]?:=by grind
theorem RQ{a:Array Obj}{o:Obj}:(a.push o)[a.size]?=some o:=by simp
theorem cS.alloc(hr:cS pl M h w){ob:Obj}{o:AObj}{p:Place}(hw:w'.heap=w.heap.push ob)(hs:WSame w w')(hb:p.blk=w.heap.size)
  (ho:bm (upd pl h.n p) M p o (some ob)):cS (upd pl h.n p) M (h.push o) w'/\dK h pl M w (h.push o) (upd pl h.n p) M w':=by
 have hext:nS pl (upd pl h.n p):=λid q hq=>⟨q,by rw[dj (by have:=hr.dom id q hq;omega)];omega,ar _,λ_=>rfl⟩
 have hcase:∀id q,upd pl h.n p id=some q->(id=h.n/\q=p)\/(id<h.n/\pl id=some q):=by
  intro id q hq;by_cases e:id=h.n
  ·subst e;rw[eY]at hq;simp_all
  ·rw[dj e]at hq;exact .inr ⟨hr.dom id q hq,hq⟩
 refine⟨⟨?_,?_,?_,?_,?_,?_⟩,⟨hext,?_,λ_ _ h=>h,by simp_all,?_,?_,?_,?_,λ_ _ h=>.inl h,hs.os,hs.tape,hs.out,hs.drawn⟩⟩
 ·intro id q hq;show id<h.n+1
  grind
 ·intro id q o' hq hg;rcases hcase id q hq with⟨e,e2⟩|⟨e,e2⟩
  ·subst e;subst e2;rcases dh hg with⟨_,k⟩|⟨k,_⟩
   all_goals simp_all
  ·rcases dh hg with⟨k,_⟩|⟨_,k⟩
   ·omega
   ·rw[hw,G5 (hr.blk id q e2)];exact(hr.obj id q o' e2 k).mono hext (λ_ _ h=>h)
 ·intro id q hq;rw[hw,Array.size_push];rcases hcase id q hq with⟨_,e2⟩|⟨_,e2⟩
  ·simp_all
  ·have:=hr.blk id q e2;omega
 ·intro id id' q q' hq hq' e;rcases hcase id q hq with⟨a,b⟩|⟨a,b⟩<;>rcases hcase id' q' hq' with⟨a',b'⟩|⟨a',b'⟩
  ·omega
  ·subst b;have:=hr.blk id' q' b';omega
  ·subst b';have:=hr.blk id q b;omega
  ·exact hr.inj id id' q q' b b' e
 ·intro b c hbc;obtain⟨t,fr,h1⟩:=hr.imm b c hbc;grind
 ·intro id q hq;rcases hcase id q hq with⟨_,e2⟩|⟨_,e2⟩
  ·subst e2;rw[hb];exact hr.memNone (ar _)
  ·exact hr.sep id q e2
 ·grind[dj]
 ·grind
 ·grind
 ·intro id q hq hg;cases hg2:(h.push o).get id with
  |none=>rfl
  |some o2=>
   rcases dh hg2 with⟨k,_⟩|⟨_,k⟩
   ·have:=hr.dom id q hq;omega
   ·grind
 ·intro id q hq _;rw[dj (by have:=hr.dom id q hq;omega)];omega
theorem cS.change(hr:cS pl M h w){id:Nat}{p p':Place}{o o':AObj}(hp:pl id=some p)(hg:h.get id=some o)(hpp:p'=p\/p.ep<p'.ep)(hs:WSame w w')
  (hsz:w.heap.size<=w'.heap.size)(hk:∀b,b<w.heap.size->b≠p.blk->w'.heap[b]?=w.heap[b]?)(hb:p'.blk=p.blk\/w.heap.size<=p'.blk)(hlt:p'.blk<w'.heap.size)
  (ho:bm (upd pl id p') M p' o' w'.heap[p'.blk]?):cS (upd pl id p') M (h.put id o') w'/\dK h pl M w (h.put id o') (upd pl id p') M w':=by
 have hid:id<1000000:=(AHeap.get_some.1 hg).2.1;have hext:nS pl (upd pl id p'):=by
  intro k q hq;by_cases e:k=id
  ·subst e;rw[hp]at hq;have hq':p=q:=by simp_all
   subst hq';refine⟨p',eY _ _ _,?_,?_⟩;all_goals grind
  ·exact⟨q,by grind[dj],ar _,λ_=>rfl⟩
 have hcase:∀k q,upd pl id p' k=some q->(k=id/\q=p')\/(k≠id/\pl k=some q):=by
  intro k q hq;by_cases e:k=id
  ·subst e;rw[eY]at hq;simp_all
  grind[dj]
 have hpb:=hr.blk id p hp;refine⟨⟨?_,?_,?_,?_,?_,?_⟩,⟨hext,?_,λ_ _ h=>h,hsz,?_,?_,?_,?_,λ_ _ h=>.inl h,hs.os,hs.tape,hs.out,hs.drawn⟩⟩
 ·intro k q hq;show k<h.n
  rcases hcase k q hq with⟨e,_⟩|⟨_,e⟩
  ·subst e;exact hr.dom _ p hp
  ·exact hr.dom k q e
 ·intro k q oo hq hgg;rcases hcase k q hq with⟨e,e2⟩|⟨e,e2⟩
  ·subst e;subst e2;rcases AHeap.get_put hid hgg with⟨_,q1⟩|⟨q1,_⟩
   all_goals simp_all
  ·rcases AHeap.get_put hid hgg with⟨q1,_⟩|⟨_,q1⟩
   ·omega
   ·rw[hk q.blk (hr.blk k q e2) (λe3=>e (hr.inj k id q p e2 hp e3))];exact(hr.obj k q oo e2 q1).mono hext (λ_ _ h=>h)
 ·intro k q hq;rcases hcase k q hq with⟨_,e2⟩|⟨_,e2⟩
  ·simp_all
  ·have:=hr.blk k q e2;omega
 ·intro k k' q q' hq hq' e;rcases hcase k q hq with⟨a,b⟩|⟨a,b⟩<;>rcases hcase k' q' hq' with⟨a',b'⟩|⟨a',b'⟩
  ·omega
  ·subst b;exfalso;rcases hb with e3|e3
   ·exact a' (hr.inj k' id q' p b' hp (by omega))
   ·have:=hr.blk k' q' b';omega
  ·subst b';exfalso;rcases hb with e3|e3
   ·exact a (hr.inj k id q p b hp (by omega))
   ·have:=hr.blk k q b;omega
  ·exact hr.inj k k' q q' b b' e
 ·intro b c hbc;obtain⟨t,fr,h1⟩:=hr.imm b c hbc;refine⟨t,fr,?_⟩;rw[hk b (hr.memLt hbc) (λe=>by have:=hr.sep id p hp;simp_all)];omega
 ·intro k q hq;rcases hcase k q hq with⟨_,e2⟩|⟨_,e2⟩
  ·subst e2;rcases hb with e3|e3
   ·rw[e3];exact hr.sep id p hp
   ·exact hr.memNone e3
  ·exact hr.sep k q e2
 ·grind[dj]
 ·grind
 ·grind
 ·intro k q hq hg2;cases hg3:(h.put id o').get k with
  |none=>rfl
  |some o2=>grind[AHeap.get_put]
 grind[dj]
theorem tK{id:Nat}{p:Place}(hp:pl id=some p):upd pl id p=pl:=by
 funext k;by_cases e:k=id
 ·grind[eY]
 ·rw[dj e]
theorem cS.samePut(hr:cS pl M h w){id:Nat}{p:Place}{o:AObj}(hp:pl id=some p)(hg:h.get id=some o):cS pl M (h.put id o) w/\dK h pl M w (h.put id o) pl M w:=by
 have e:=tK (pl:=pl) hp;have:=cS.change (o':=o) (w':=w) hr hp hg (.inl rfl) (WSame.refl w) (ar _) (λb _ _=>rfl) (.inl rfl) (hr.blk id p hp) (by rw[e];exact hr.obj id p o hp hg);simp_all
theorem CK(hr:cS pl M h w){c:Array Value}{t:TypeId}{fr:Nat×Nat}(hw:w'.heap=w.heap.push (.cells c t fr))(hs:WSame w w'):
  cS pl (zu M w.heap.size c) h w'/\dK h pl M w h pl (zu M w.heap.size c) w':=by
 have hm:qo M (zu M w.heap.size c):=by
  intro b c' hb;have:=hr.memLt hb;grind[zu]
 refine⟨⟨hr.dom,?_,?_,hr.inj,?_,?_⟩,⟨nS.refl _,λ_ _ h=>h,hm,by simp_all,λb hb _=>by grind,λid p h=>.inl ⟨p,h,rfl⟩,λ_ _ _ h=>h,λ_ _ h _=>h,λb c' hb=>?_,hs.os,hs.tape,hs.out,hs.drawn⟩⟩
 ·intro id p o h1 h2;rw[hw,G5 (hr.blk id p h1)];exact(hr.obj id p o h1 h2).mono (nS.refl _) hm
 ·intro id p h1;rw[hw,Array.size_push];have:=hr.blk id p h1;omega
 ·intro b c' hb;by_cases e:b=w.heap.size
  ·grind[zu]
  ·simp[zu,e]at hb;obtain⟨t',fr',h1⟩:=hr.imm b c' hb;grind
 ·intro id p h1;have:=hr.blk id p h1;simp[zu,show p.blk≠w.heap.size by omega,hr.sep id p h1]
 grind[zu]
end
section
variable{P:Program}{G:fz}{pl:Pl}{M:dN}
theorem ow{α:Type}:∀(l:List α)(n:Nat),jI l n=l[n]?
 |[],n=>by cases n<;>rfl
 |x::r,0=>rfl
 |x::r,n+1=>by simp only[jI,List.getElem?_cons_succ];exact ow r n
theorem Ns{α:Type}{vs:Array α}{j:Nat}{d:α}(h:j<vs.size):vs[j]?=some (vs.getD j d):=by simp_all
theorem VRels.get{as:laa}{vs:Array Value}(h:VRels pl M as vs){j:Nat}{y:AV}(hj:as[j]?=some y):vs[j]?=some (vs.getD j undef):=by
 apply Ns;grind[cases VRels]
theorem VRel.cells{v:AV}{x:Value}(h:VRel pl M v x):VRels pl M v.cells x.cells:=by
 have one:∀(v:AV)(x:Value),VRel pl M v x->VRels pl M [v] #[x]:=λv x h=>⟨rfl,λj y hj=>by
  cases j with
  |zero=>simp_all
  |succ j=>simp_all⟩
 cases h with
 |agg h1 h2 h3=>exact⟨h1,h3⟩
 |lsp h1 ht=>cases h1 with|ps a b c d e=>exact one _ _ (.lsp (.ps a b c d e) ht)
 |sl0s h1=>cases h1 with|slice a b c d e=>exact one _ _ (.sl0s (.slice a b c d e))
 |sl0n h1=>cases h1 with|lsn=>exact one _ _ (.sl0n .lsn)|lsp h2 ht=>cases h2 with|ps a b c d e=>exact one _ _ (.sl0n (.lsp (.ps a b c d e) ht))
 |_=>exact one _ _ (by constructor<;>assumption)
theorem VRel.sc{v:AV}{x:Value}(h:VRel pl M v x)(hf:fj v=true):Sc v:=by
 cases h with
 |agg h1 h2 h3=>exact h2
 |tuple=>grind[fj]
 |_=>intro y hy;simp[AV.cells]at hy;subst hy;rfl
theorem VRel.one{v:AV}{x:Value}(h:VRel pl M v x)(hf:dq v=true):x.oneCell'=true:=by
 cases h with
 |lsp h1 _=>cases h1;rfl
 |sl0s h1=>cases h1;rfl
 |sl0n h1=>cases h1 with|lsn=>rfl|lsp h2 _=>cases h2;rfl
 |_=>first|rfl|simp[dq]at hf
theorem VRels.one{as:laa}{vs:Array Value}(h:VRels pl M as vs)(hf:∀y,y∈as->dq y=true):∀u∈vs.toList,u.oneCell'=true:=by
 intro u hu;obtain⟨j,hj,e⟩:=List.mem_iff_getElem.1 hu;have hjs:j<as.length:=by grind[cases VRels]
 have h1:=h.at_ j as[j] (lE hjs);have h2:vs.getD j undef=u:=by
  have:j<vs.size:=by omega
  simp_all
 rw[<-h2];exact h1.one (hf _ (Eh hjs))
theorem BU(v:AV)(hf:fj v=true):(∃cs,v=.agg cs)\/(dq v=true/\v.cells=[v]):=by cases v<;>first|(exact .inl ⟨_,rfl⟩)|(simp[fj]at hf;done)|exact .inr ⟨rfl,rfl⟩
theorem Dy{c:Value}{v:AV}(h:j4 c=some v):VRel pl M v c/\dq v=true:=by
 cases c with
 |bool b=>simp[j4]at h;subst h;exact⟨.bool _,rfl⟩
 |int k n=>simp[j4]at h;subst h;exact⟨.int _ _,rfl⟩
 |string s=>simp[j4]at h;subst h;exact⟨.str _,rfl⟩
 |pointer a=>cases a<;>simp[j4]at h;subst h;exact⟨.nilp,rfl⟩
 |slice a n m=>
  cases a with
  |some a=>grind[j4]
  |none=>cases n<;>cases m<;>simp[j4]at h;subst h;exact⟨.nils,rfl⟩
 |map r=>cases r<;>simp[j4]at h;subst h;exact⟨.nilm,rfl⟩
 |nilFunc=>simp[j4]at h;subst h;exact⟨.nilf,rfl⟩
 |nilIface=>simp[j4]at h;subst h;exact⟨.nili,rfl⟩
 |func fn a b=>
  obtain⟨a⟩:=a;obtain⟨b⟩:=b;cases a<;>cases b<;>simp[j4]at h
  subst h;exact⟨.func rfl rfl (λj y h=>by simp_all) (λj y h=>by simp_all),rfl⟩
 |_=>simp[j4]at h
theorem Ag:∀(l:lao)(as:laa),pm l=some as->as.length=l.length/\(∀y,y∈as->dq y=true)/\∀(j:Nat)(y:AV),as[j]?=some y->∃c:Value,l[j]?=some c/\VRel pl M y c
 |[],as,h=>by
  simp[pm]at h;simp_all
 | c::r,as,h=>by
  simp only[pm]at h;cases h1:j4 c with
  |none=>simp_all
  | some v=>
   cases h2:pm r with
   |none=>simp_all
   |some vs=>
    simp[h1,h2]at h;subst h;obtain⟨a,b,d⟩:=Ag r vs h2;obtain⟨e1,e2⟩:=Dy (pl:=pl) (M:=M) h1;grind
theorem dB{c:Value}{v:AV}(h:ofValue c=some v):VRel pl M v c:=by
 cases c with
 | agg cs=>
  simp only[ofValue]at h;cases h1:pm cs.toList with
  |none=>simp_all
  |some as=>
   simp[h1]at h;subst h;obtain⟨a,b,d⟩:=Ag (pl:=pl) (M:=M) _ _ h1;refine .agg (by omega) b λj y hj=>?_
   obtain⟨c,hc,hv⟩:=d j y hj;simp_all
 |tuple vs=>
  obtain⟨vs⟩:=vs;cases vs<;>simp[ofValue]at h
  subst h;exact .tuple rfl (λj y h=>by simp_all)
 |_=>exact(Dy (by simpa[ofValue]using h)).1
theorem bK{A:Fr}{a:Act}{x:Operand}{v:AV}(hg:qc G pl M)(hf:FrRel pl M A a)(h:(cA G x).run A=some v):VRel pl M v (a.eval x):=by
 cases x with
 |tmp t=>exact(hf.at_ t v h).2
 |const c=>exact dB h
 |global g=>
  simp only[cA]at h;cases hx:G g with
  |none=>simp_all
  |some x=>simp[hx]at h;subst h;exact(hg g x hx).1
 |func f=>simp[cA]at h;subst h;exact .func rfl rfl (λj y h=>by simp_all) (λj y h=>by simp_all)
theorem rT{A:Fr}{a:Act}(hg:qc G pl M)(hf:FrRel pl M A a):∀(xs:List Operand)(vs:laa),(wc G xs).run A=some vs->VRels pl M vs (xs.map a.eval).toArray
 |[],vs,h=>by simp[wc]at h;subst h;exact⟨rfl,λj y hj=>by simp_all⟩
 | x::r,vs,h=>by
  simp only[wc]at h;cases h1:(cA G x).run A with
  |none=>grind[N2]
  | some v=>
   cases h2:(wc G r).run A with
   |none=>grind[N2]
   | some l=>
    simp[h1,h2,N2]at h;subst h;have ih:=rT hg hf r l h2;refine⟨by simpa using ih.len,λj y hj=>?_⟩;cases j with
    |zero=>simp at hj;subst hj;simpa[Array.getD]using bK hg hf h1
    |succ j=>
     have:=ih.at_ j y (by simp_all);simp_all
theorem Oe{t:TypeId}{n:Nat}(h:dV P t=some n):∃i,P.info? t=some i/\i.size=n:=by grind[dV]
theorem dZ{t:TypeId}{n:Nat}(h:dV P t=some n)(w:World):(sizeOf t).run P w=.ok n w:=by
 obtain⟨i,hi,e⟩:=Oe h;simp_all[sizeOf,typeInfo]
theorem mL{t:TypeId}{b:Bool}(h:dW P t=some b)(w:World):(isAgg t).run P w=.ok b w:=by
 unfold dW at h;split at h<;>simp at h<;>subst h<;>rename_i hu<;>(try simp[isAgg,run_underlying hu])
theorem m6{t:TypeId}{z:AV}(h:iP P t=some z):∃i zv,P.info? t=some i/\i.zero=some zv/\ofValue zv=some z:=by grind[iP]
theorem lG{t:TypeId}{z:AV}(h:iP P t=some z):∃zv,(∀w,(zeroValue t).run P w=.ok zv w)/\ofValue zv=some z:=by
 obtain⟨i,zv,hi,hz,ho⟩:=m6 h;simp_all[zeroValue,typeInfo]
theorem xp{ag:Bool}{n off:Nat}{cs:laa}{v:AV}(h:uL ag n cs off=some v):
  (ag=true/\off+n<=cs.length/\v=.agg ((cs.drop off).take n))\/(ag=false/\cs[off]?=some v):=by
 unfold uL at h;cases ag with
 |true=>
  simp only[bd]at h;grind
 |false=>exact .inr ⟨rfl,by grind[ow]⟩
theorem GP{cs:laa}{vs:Array Value}(h:VRels pl M cs vs)(hs:∀y,y∈cs->dq y=true){ag:Bool}{n off:Nat}{v:AV}{t:TypeId}
  (h1:dW P t=some ag)(h2:dV P t=some n)(hp:uL ag n cs off=some v):∃cv,(∀w,(part t vs off).run P w=.ok cv w)/\VRel pl M v cv:=by
 rcases xp hp with⟨e,hl,e2⟩|⟨e,hl⟩
 ·subst e;subst e2;refine⟨.agg (vs.extract off (off+n)),λw=>by simp_all[part,mL,dZ],?_⟩;refine .agg ?_ (λy hy=>hs y (Qz (sE hy))) λj y hj=>?_
  ·grind[cases VRels]
  ·rw[List.getElem?_take]at hj;split at hj
   ·rename_i hjn;rw[List.getElem?_drop]at hj;have:=h.at_ _ _ hj;have hlt:off+j<vs.size:=by rw[<-h.len];omega
    have e3:(vs.extract off (off+n)).getD j undef=vs.getD (off+j) undef:=by
     simp only[iZ,Array.getElem?_extract];grind
    simp_all
   simp_all
 ·subst e;have hr:=h.at_ _ _ hl;have hg:=h.get hl;generalize vs.getD off undef=u at hr hg;simp_all[part,mL]
theorem oJ{w:World}{b k:Nat}{c:Array Value}{t:TypeId}{fr:Nat×Nat}(hb:w.heap[b]?=some (.cells c t fr))(hk:k<c.size):w.cell? ⟨b,k,none⟩=some (c.getD k undef):=by simp_all[World.cell?]
theorem ut{w:World}{b:Nat}{c:Array Value}{t:TypeId}{fr:Nat×Nat}(hb:w.heap[b]?=some (.cells c t fr)){o:Nat}{cs:laa}(hfit:o+cs.length<=c.size)
  (hc:∀j y,cs[j]?=some y->VRel pl M y (c.getD (o+j) undef))(hs:∀y,y∈cs->dq y=true){ag:Bool}{n off:Nat}{v:AV}{ty:TypeId}
  (h1:dW P ty=some ag)(h2:dV P ty=some n)(hp:uL ag n cs off=some v):∃cv,(loadVar ty ⟨b,o+off,none⟩).run P w=.ok cv w/\VRel pl M v cv:=by
 rcases xp hp with⟨e,hl,e2⟩|⟨e,hl⟩
 ·subst e;subst e2;have hld:(loadCells ⟨b,o+off,none⟩ n).run P w=.ok ((List.range n).map λj=>c.getD (o+off+j) undef).toArray w:=by
   have:=run_loadCells_list (P:=P) w ⟨b,o+off,none⟩ ((List.range n).map λj=>c.getD (o+off+j) undef) (λj u hj=>by grind[Addr.add_lit,oJ]);simp_all
  refine⟨.agg ((List.range n).map λj=>c.getD (o+off+j) undef).toArray,by simp_all[loadVar,mL,dZ],?_⟩;refine .agg (by grind) (λy hy=>hs y (Qz (sE hy))) λj y hj=>?_
  simp_all[List.getElem?_take,Nat.add_assoc]
 ·subst e;have hlt:off<cs.length:=(fP.1 hl).1;refine⟨c.getD (o+off) undef,?_,hc _ _ hl⟩;simp[loadVar,mL h1,oJ hb (show o+off<c.size by omega)]
end
def qr(pl:Pl)(M:dN)(h:AHeap)(w:World)(r:Result Next)(v:AV)(h':AHeap):Prop:=∃(pl':Pl)(M':dN)(cv:Value)(w':World)(nx:Next),r=.ok nx w'/\(nx=.value cv\/(nx=.skip/\cv=undef))/\VRel pl' M' v cv/\cS pl' M' h' w'/\dK h pl M w h' pl' M' w'/\h.n<=h'.n
def jJ(P:Program)(G:fz)(op:Op):Prop:=
 ∀(pl:Pl)(M:dN)(A:Fr)(h:AHeap)(v:AV)(h':AHeap)(a:Act)(w:World)(dst:lau)(ty:TypeId)(pos:String)(after:Array Edge)(guard:Option (Nat×Bool)),
  qc G pl M->cS pl M h w->FrRel pl M A a->(fc P G op).run A h=some (.val v h')->qr pl M h w ((execOp a.eval ⟨dst,op,ty,pos,after,guard⟩).run P w) v h'
section
variable{P:Program}{G:fz}{pl:Pl}{M:dN}{h h':AHeap}{w w':World}{v:AV}{A:Fr}{a:Act}
theorem qr.pure{cv:Value}(hr:cS pl M h w)(hv:VRel pl M v cv):qr pl M h w (.ok (.value cv) w) v h:=⟨pl,M,cv,w,_,rfl,.inl rfl,hv,hr,dK.refl _ _ _ _,ar _⟩
theorem bF{o:lae}{r:ARes}(e:bp h o=some r):∃v,o=some v/\r=.val v h:=by
 cases o with
 |none=>grind[bp]
 |some v=>simp[bp]at e;simp_all
theorem ab{r:ARes}(e:dP.run A h=some r):False:=by grind[dP]
theorem M6(x:Operand):jJ P G (.move x):=by
 intro pl M A h v h' a w dst ty pos after guard hg hr hf he;obtain⟨u,e1,e2⟩:=bF he;simp at e2;obtain⟨rfl,rfl⟩:=e2;exact qr.pure hr (bK hg hf e1)
theorem O3(x:Operand):jJ P G (.assign x):=M6 x
theorem VU(c x y:Operand):jJ P G (.pick c x y):=by
 intro pl M A h v h' a w dst ty pos after guard hg hr hf he;obtain⟨u,e1,e2⟩:=bF he;simp at e2;obtain⟨rfl,rfl⟩:=e2;cases hc:(cA G c).run A with
 |none=>grind[MI]
 |some cv=>
  have hcv:=bK hg hf hc;rw[hc]at e1;cases cv<;>simp[MI]at e1
  rename_i b;generalize hx:a.eval c=xc at hcv;cases hcv
  cases b
  ·simp at e1;simpa[execOp,hx,asBool]using qr.pure hr (bK hg hf e1)
  ·simp at e1;simpa[execOp,hx,asBool]using qr.pure hr (bK hg hf e1)
theorem KK{x:AV}{n:Nat}(e:gX x=some n):∃k,x=.int k (n:Int):=by
 unfold gX at e;split at e;all_goals simp_all
theorem HJ{n:Nat}{x:lae}{v:AV}(e:offset n x=some v):
  (∃id ep i off,x=some (.ptr id ep i off)/\v=.ptr id ep i (off+n))\/(∃xs i off,x=some (.pptr xs i off)/\v=.pptr xs i (off+n)):=by
 unfold offset at e;grind
theorem Dv{n:Nat}{x v:AV}{cx:Value}(e:offset n (some x)=some v)(hx:VRel pl M x cx):∃ad,cx=.pointer (some ad)/\VRel pl M v (.pointer (some (ad.add n))):=by
 rcases HJ e with⟨id,ep,i,off,h1,h2⟩|⟨xs,i,off,h1,h2⟩
 ·simp at h1;subst h1;subst h2;cases hx with
  |ptr hp hle ha=>
   refine⟨_,rfl,.ptr hp hle λe=>?_⟩;grind[Addr.add_lit]
 ·simp at h1;subst h1;subst h2;cases hx with
  |pptr hm hs hi hc=>
   refine⟨_,rfl,?_⟩;rw[Addr.add_lit,Nat.add_assoc];exact .pptr hm hs hi hc
theorem E3(s:TypeId)(x:Operand)(f:Nat):jJ P G (.fieldAddr s x f):=by
 intro pl M A h v h' a w dst ty pos after guard hg hr hf he;simp only[fc]at he;cases h1:fieldsOf P s with
 |none=>grind[ab]
 | some fs=>
  simp only[h1]at he;cases h2:fs[f]? with
  |none=>grind[ab]
  | some fd=>
   simp only[h2]at he;cases h3:dV P fd.type with
   |none=>grind[ab]
   | some n=>
    cases n with
    |zero=>grind[ab]
    | succ n=>
     simp only[h3]at he;obtain⟨u,e1,e2⟩:=bF he;simp at e2;obtain⟨rfl,rfl⟩:=e2;cases hx:(cA G x).run A with
     |none=>grind[offset]
     |some xv=>
      rw[hx]at e1;obtain⟨ad,e3,e4⟩:=Dv e1 (bK hg hf hx);have hu:P.underlying s=some (.struct fs):=by grind[fieldsOf]
      simp_all[Instr.fieldAt,run_underlying,Instr.sureAddr,fieldPlace,dZ,execOp,qr.pure]
theorem Rc(s:TypeId)(x:Operand)(f:Nat):jJ P G (.field s x f):=by
 intro pl M A h v h' a w dst ty pos after guard hg hr hf he;simp only[fc]at he;cases h1:fieldsOf P s with
 |none=>grind[ab]
 | some fs=>
  simp only[h1]at he;cases h2:fs[f]? with
  |none=>grind[ab]
  | some fd=>
   simp only[h2]at he;cases h3:dW P fd.type with
   |none=>grind[ab]
   | some ag=>
    cases h4:dV P fd.type with
    |none=>grind[ab]
    | some n=>
     simp only[h3,h4]at he;obtain⟨u,e1,e2⟩:=bF he;simp at e2;obtain⟨rfl,rfl⟩:=e2;cases hx:(cA G x).run A with
     |none=>grind[KP]
     | some xv=>
      have hxv:=bK hg hf hx;rw[hx]at e1;cases xv<;>simp[KP]at e1
      generalize hq:a.eval x=cx at hxv;cases hxv with
      |agg g1 g2 g3=>
       obtain⟨cv,k1,k2⟩:=GP (P:=P) ⟨g1,g3⟩ g2 h3 h4 e1;have hu:P.underlying s=some (.struct fs):=by grind[fieldsOf]
       simp_all[execOp,Instr.field,run_underlying,asAgg,qr.pure]
theorem KQ(t:Operand)(i:Nat):jJ P G (.extract t i):=by
 intro pl M A h v h' a w dst ty pos after guard hg hr hf he;obtain⟨u,e1,e2⟩:=bF he;simp at e2;obtain⟨rfl,rfl⟩:=e2;cases hx:(cA G t).run A with
 |none=>simp_all[ext]
 | some xv=>
  have hxv:=bK hg hf hx;rw[hx]at e1;cases xv<;>simp[ext]at e1
  rw[ow]at e1;generalize hq:a.eval t=cx at hxv;cases hxv with
  |tuple g1 g3=>
   have k1:=g3 _ _ e1;have k2:=VRels.get ⟨g1,g3⟩ e1;simp_all[Array.getD,execOp,Instr.extract,qr.pure]
theorem HZ(x:Operand):jJ P G (.nilCheck x):=by
 intro pl M A h v h' a w dst ty pos after guard hg hr hf he;obtain⟨u,e1,e2⟩:=bF he;simp at e2;obtain⟨rfl,rfl⟩:=e2;cases hx:(cA G x).run A with
 |none=>grind[Zd]
 | some xv=>
  have hxv:=bK hg hf hx;rw[hx]at e1;generalize hq:a.eval x=cx at hxv;unfold Zd at e1;split at e1<;>simp at e1
  ·rename_i e;simp at e;subst e;subst e1;have:=hxv;cases hxv
   simp_all[execOp,qr.pure]
  ·rename_i e;simp at e;subst e;subst e1;have:=hxv;cases hxv
   simp_all[execOp,qr.pure]
  ·rename_i e;simp at e;subst e;subst e1;have:=hxv;cases hxv
   simp_all[execOp,qr.pure]
theorem HW(fn:Fn)(xs ys:Array Operand):jJ P G (.makeFunc fn xs ys):=by
 intro pl M A h v h' a w dst ty pos after guard hg hr hf he;simp only[fc]at he;cases h1:(wc G xs.toList).run A with
 |none=>simp_all
 | some as=>
  cases h2:(wc G ys.toList).run A with
  |none=>simp_all
  |some bs=>
   simp[h1,h2]at he;obtain⟨rfl,rfl⟩:=he;have k1:=rT hg hf _ _ h1;have k2:=rT hg hf _ _ h2;have e1:(xs.toList.map a.eval).toArray=xs.map a.eval:=by grind
   have e2:(ys.toList.map a.eval).toArray=ys.map a.eval:=by grind
   rw[e1]at k1;rw[e2]at k2;simpa[execOp,Instr.makeFunc]using qr.pure hr (.func k1.len k2.len k1.at_ k2.at_)
theorem we(t:TypeId)(x:Operand):jJ P G (.makeInterface t x):=by
 intro pl M A h v h' a w dst ty pos after guard hg hr hf he;simp only[fc]at he;cases hu:P.underlying t with
 |none=>grind[ab]
 | some d=>
  have hd:(∃ms,d=.interface ms)\/∀ms,d≠.interface ms:=by grind
  rcases hd with⟨ms,rfl⟩|hd
  ·grind[ab]
  ·have he2:bp h (one (λv=>some (.iface t v)) ((cA G x).run A))=some (.val v h'):=by simp_all
   obtain⟨u,e1,e2⟩:=bF he2;simp at e2;obtain⟨rfl,rfl⟩:=e2;cases hx:(cA G x).run A with
   |none=>grind[one]
   | some xv=>
    simp[hx,one]at e1;subst e1;have hrun:(Instr.makeInterface t (a.eval x)).run P w=.ok (.iface t (a.eval x)) w:=by
     simp only[Instr.makeInterface,Sem.run_bind,run_underlying hu,Result.andThen_ok];rfl
    simpa[execOp,hrun]using qr.pure hr (.iface (bK hg hf hx))
end
section
variable{P:Program}{G:fz}{pl:Pl}{M:dN}{h h':AHeap}{w w':World}{v:AV}{A:Fr}{a:Act}
theorem Q3(hr:cS pl M h w){id ep i off sz ep':Nat}{op:Bool}{xs:laa}{ad:Addr}(hx:VRel pl M (.ptr id ep i off) (.pointer (some ad)))
  (hg:h.get id=some (.row sz op ep' xs))(he:ep=ep'):∃p c t,pl id=some p/\ad=⟨p.blk,i*sz+off,none⟩/\w.heap[p.blk]?=some (.cells c t (0,0))/\
   p.ep=ep/\p.sz=sz/\p.n=xs.length/\p.tot=c.size/\0<sz/\(op=false->c.size=xs.length*sz)/\InMem pl M c 0 sz xs:=by
 cases hx with
 | ptr hp hle ha=>
  rename_i p;have ho:=hr.obj id p _ hp hg;cases hb:w.heap[p.blk]? with
  |none=>rw[hb]at ho;simp[bm]at ho
  |some ob=>
   rw[hb]at ho;cases ob<;>simp only[bm]at ho
   rename_i c t fr;obtain⟨h1,h2,h3,h4,h5,h6,h7,h8⟩:=ho;subst h5;refine⟨p,c,t,hp,?_,hb,by omega,h2,h3,h4,h6,h7,h8⟩;rw[ha (by omega),h2]
theorem Ih{c:Array Value}{o sz:Nat}{xs:laa}(hm:InMem pl M c o sz xs){i:Nat}{x:AV}(hx:xs[i]?=some x):o+i*sz+x.cells.length<=c.size:=by
 have h1:=hm.fit;have hi:=(fP.1 hx).1;have h2:=(hm.elem x (bC hx)).1;have h3:(i+1)*sz<=xs.length*sz:=e9 _ hi;rw[kQ]at h3;omega
theorem xr{ag:Bool}{n off:Nat}{o:lae}{v:AV}(e:Ac ag n off o=some v):∃x,o=some x/\uL ag n x.cells off=some v:=by
 cases o with
 |none=>simp[Ac]at e
 |some x=>exact⟨x,rfl,e⟩
theorem He(hr:cS pl M h w){x:AV}{cx:Value}(hx:VRel pl M x cx){ag:Bool}{n:Nat}{ty:TypeId}(h1:dW P ty=some ag)(h2:dV P ty=some n)
  (e:AM ag n h (some x)=some v):∃ad cv,cx=.pointer (some ad)/\(loadVar ty ad).run P w=.ok cv w/\VRel pl M v cv:=by
 unfold AM at e;split at e
 ·rename_i id ep i off e0;simp at e0;subst e0;split at e
  ·rename_i sz op ep' xs hg;rw[aD]at e;by_cases he:ep=ep'
   ·simp[he]at e;obtain⟨y,e1,e2⟩:=xr e;rw[ow]at e1;have hx':=hx;cases hx with
    | ptr hp hle ha=>
     obtain⟨p,c,t,q1,q2,q3,q4,q5,q6,q7,q8,q9,q10⟩:=Q3 hr hx' hg he;have hf:=Ih q10 e1;obtain⟨cv,k1,k2⟩:=ut (P:=P) (pl:=pl) (M:=M) q3 (o:=i*sz) (cs:=y.cells) (by omega) (λj u hj=>by simpa using q10.cell i y j u e1 hj)
      (q10.elem y (bC e1)).2 h1 h2 e2
     exact⟨_,cv,rfl,by rw[q2];exact k1,k2⟩
   ·simp[he]at e
  ·simp at e
 ·rename_i xs i off e0;simp at e0;subst e0;obtain⟨y,e1,e2⟩:=xr e;rw[ow]at e1;cases hx with
  | pptr hm hs hi hc=>
   rename_i ad sz c;obtain⟨t,fr,hb⟩:=hr.imm _ _ hm.2.1;have hf:ad.off+i*sz+y.cells.length<=c.size:=by
    have h2:=(hs y (bC e1)).1;have h3:(i+1)*sz<=xs.length*sz:=e9 _ hi;rw[kQ]at h3;omega
   obtain⟨cv,k1,k2⟩:=ut (P:=P) (pl:=pl) (M:=M) hb (o:=ad.off+i*sz) (cs:=y.cells) hf (λj u hj=>hc i y j u e1 hj)
    (hs y (bC e1)).2 h1 h2 e2
   exact⟨_,cv,rfl,k1,k2⟩
 ·simp at e
theorem Vz(t:TypeId)(x:Operand):jJ P G (.load t x):=by
 intro pl M A h v h' a w dst ty pos after guard hg hr hf he;simp only[fc]at he;cases h1:dW P t with
 |none=>simp only[h1]at he;exact(ab he).elim
 | some ag=>
  cases h2:dV P t with
  |none=>simp only[h1,h2]at he;exact(ab he).elim
  | some n=>
   simp only[h1,h2]at he;obtain⟨u,e1,e2⟩:=bF he;simp at e2;obtain⟨rfl,rfl⟩:=e2;cases hx:(cA G x).run A with
   |none=>simp[hx,AM]at e1
   |some xv=>
    rw[hx]at e1;obtain⟨ad,cv,k1,k2,k3⟩:=He (P:=P) hr (bK hg hf hx) h1 h2 e1;simpa[execOp,Instr.loadAt,k1,Instr.sureAddr,k2]using qr.pure hr k3
def over(c:Array Value)(o:Nat)(vs:lao):Array Value:=(c.toList.take o++vs++c.toList.drop (o+vs.length)).toArray
theorem lz{c:Array Value}{o:Nat}{vs:lao}(h:o+vs.length<=c.size):(over c o vs).size=c.size:=by simp[over];omega
theorem pg{c:Array Value}{o:Nat}{vs:lao}(h:o+vs.length<=c.size){k:Nat}(hk:k<vs.length):(over c o vs).getD (o+k) undef=vs.getD k undef:=by
 simp only[over,iZ,ou,iQ];rw[ot (by simp;omega)];have e:o+k-(c.toList.take o).length=k:=by simp;omega
 rw[e,sC hk];simp
theorem jA{c:Array Value}{o:Nat}{vs:lao}(h:o+vs.length<=c.size){k:Nat}(hk:k<o\/o+vs.length<=k):(over c o vs).getD k undef=c.getD k undef:=by
 simp only[over,iZ,ou,iQ];have h1:(c.toList.take o).length=o:=by simp;omega
 rcases hk with hk|hk
 ·rw[sC (by omega),LL hk];simp
 ·rw[ot (by omega),ot (by omega),List.getElem?_drop];have e:o+vs.length+(k-(c.toList.take o).length -vs.length)=k:=by omega
  rw[e];simp
theorem Dx{c:Array Value}{o:Nat}{v:Value}{r:lao}(hl:o+(r.length+1)<=c.size):over (c.setIfInBounds o v) (o+1) r=over c o (v::r):=by
 apply Array.ext';simp only[over];have ho:o<c.toList.length:=by simp;omega
 have e1:(c.setIfInBounds o v).toList=c.toList.set o v:=by simp
 rw[e1];have e2:(c.toList.set o v).take (o+1)=c.toList.take o++[v]:=by
  rw[Qj (by simpa using ho)];simp[List.take_set_of_le]
 have e3:(c.toList.set o v).drop (o+1+r.length)=c.toList.drop (o+1+r.length):=by rw[List.drop_set_of_lt (by omega)]
 rw[e2,e3];simp[Nat.add_assoc,Nat.add_comm 1]
theorem oq(b:Nat)(t:TypeId)(fr:Nat×Nat):∀(vs:lao)(o:Nat)(w:World)(c:Array Value),w.heap[b]?=some (.cells c t fr)->o+vs.length<=c.size->
  (w.setCells b o vs).heap[b]?=some (.cells (over c o vs) t fr)
 |[],o,w,c,hb,hl=>by
  simp only[World.setCells,over];rw[hb];simp
 | v::r,o,w,c,hb,hl=>by
  have h1:(w.setCell ⟨b,o,none⟩ v).heap[b]?=some (.cells (c.setIfInBounds o v) t fr):=by
   simp only[World.setCell,xk,hb];simp
  simp only[dw]at hl;rw[World.setCells,oq b t fr r (o+1) _ _ h1 (by simp;omega),Dx hl]
theorem nK(b b':Nat)(hne:b'≠b):∀(vs:lao)(o:Nat)(w:World),(w.setCells b o vs).heap[b']?=w.heap[b']?
 |[],_,_=>rfl
 |v::r,o,w=>by
  rw[World.setCells,nK b b' hne r (o+1)];simp only[World.setCell,xk];rw[if_neg (λe=>hne e.symm)]
theorem ju(b:Nat):∀(vs:lao)(o:Nat)(w:World),(w.setCells b o vs).heap.size=w.heap.size
 |[],_,_=>rfl
 |v::r,o,w=>by rw[World.setCells,ju b r (o+1)];simp[World.setCell]
theorem oU(b:Nat):∀(vs:lao)(o:Nat)(w:World),WSame w (w.setCells b o vs)
 |[],_,w=>WSame.refl w
 |v::r,o,w=>by
  have:=oU b r (o+1) (w.setCell ⟨b,o,none⟩ v);exact⟨this.os,this.tape,this.out,this.drawn⟩
theorem qV{b o:Nat}{vs:lao}{c:Array Value}{t:TypeId}(hb:w.heap[b]?=some (.cells c t (0,0)))(hl:o+vs.length<=c.size)(h1:∀u∈vs,u.oneCell'=true):
  (storeCells ⟨b,o,none⟩ vs).run P w=.ok () (w.setCells b o vs):=by
 have:=run_storeCells_cells (P:=P) b o vs 0 w (λj hj=>by rw[oJ hb (by omega)];rfl) (λj hj=>by simp[World.frozen?,hb]) h1;simpa using this
theorem cS.store(hr:cS pl M h w){id:Nat}{p:Place}{sz ep:Nat}{op:Bool}{xs ys:laa}{c:Array Value}{t:TypeId}{o:Nat}{vs:lao}
  (hp:pl id=some p)(hg:h.get id=some (.row sz op ep xs))(hb:w.heap[p.blk]?=some (.cells c t (0,0)))(he:p.ep=ep)(hsz:p.sz=sz)(hn:p.n=xs.length)(htot:p.tot=c.size)(h0:0<sz)
  (hop:op=false->c.size=xs.length*sz)(hys:ys.length=xs.length)(hl:o+vs.length<=c.size)(hm:InMem pl M (over c o vs) 0 sz ys):
  cS pl M (h.put id (.row sz op ep ys)) (w.setCells p.blk o vs)/\dK h pl M w (h.put id (.row sz op ep ys)) pl M (w.setCells p.blk o vs):=by
 have e:=tK (pl:=pl) hp;have:=cS.change (o':=.row sz op ep ys) (w':=w.setCells p.blk o vs) hr hp hg (.inl rfl) (oU _ _ _ _) (by rw[ju];exact ar _) (λb _ hb=>nK _ _ hb _ _ _) (.inl rfl)
  (by rw[ju];exact hr.blk id p hp) (by
   rw[oq p.blk t (0,0) vs o w c hb hl,e];exact⟨he,hsz,by rw[hys];exact hn,by rw[lz hl];exact htot,rfl,h0,λhh=>by rw[lz hl,hys];exact hop hh,hm⟩)
 rw[e]at this;exact this
theorem sL{cs new:laa}{off:Nat}(hl:off+new.length<=cs.length):(pa cs off new).length=cs.length:=by simp[pa];omega
theorem py{cs new:laa}{off:Nat}(hl:off+new.length<=cs.length){j:Nat}{y:AV}(hj:(pa cs off new)[j]?=some y):
  (off<=j/\j<off+new.length/\new[j-off]?=some y)\/((j<off\/off+new.length<=j)/\cs[j]?=some y):=by
 have h1:(cs.take off).length=off:=by simp;omega
 simp only[pa,iQ]at hj;by_cases ha:j<off
 ·rw[sC (by omega),LL ha]at hj;exact .inr ⟨.inl ha,hj⟩
 ·rw[ot (by omega),h1]at hj;by_cases hb:j<off+new.length
  ·rw[sC (by omega)]at hj;exact .inl ⟨by omega,hb,hj⟩
  ·rw[ot (by omega),List.getElem?_drop]at hj;have e:off+new.length+(j-off-new.length)=j:=by omega
   rw[e]at hj;exact .inr ⟨.inr (by omega),hj⟩
theorem J1{x u y:AV}{off:Nat}(e:uD x off u=some y)(hsx:Sc x)(hsu:Sc u)(hfu:fj u=true):
  off+u.cells.length<=x.cells.length/\y.cells.length=x.cells.length/\Sc y/\
   ∀j z,y.cells[j]?=some z->(off<=j/\j<off+u.cells.length/\u.cells[j-off]?=some z)\/((j<off\/off+u.cells.length<=j)/\x.cells[j]?=some z):=by
 unfold uD at e;split at e
 ·rename_i cs;rw[bd]at e;by_cases hl:off+u.cells.length<=cs.length
  ·simp[hl]at e;subst e;refine⟨hl,sL hl,λz hz=>?_,λj z hj=>py hl hj⟩;obtain⟨j,hj⟩:=GU.1 hz;rcases py hl hj with⟨_,_,k⟩|⟨_,k⟩
   ·exact hsu z (bC k)
   ·exact hsx z (bC k)
  ·simp[hl]at e
 ·simp at e
 ·rename_i h1 h2;have hcx:x.cells=[x]:=by cases x<;>first|rfl|exact absurd rfl (h1 _)
  split at e
  ·simp at e
  ·simp at e
  ·rename_i g1 g2;simp at e;subst e;have hcu:u.cells=[u]:=by cases u<;>first|rfl|exact absurd rfl (g1 _)
   refine⟨by simp[hcx,hcu],by simp[hcx,hcu],hsu,λj z hj=>?_⟩;have hj0:j<u.cells.length:=(fP.1 hj).1;exact .inl ⟨by omega,by omega,by simpa using hj⟩
  ·simp at e
theorem xg{vs:Array Value}{k:Nat}:vs.toList.getD k undef=vs.getD k undef:=by simp[iZ]
theorem InMem.put{c:Array Value}{sz i off:Nat}{xs:laa}{y z:AV}{u:AV}{cu:Value}(hm:InMem pl M c 0 sz xs)(hy:xs[i]?=some y)(hu:VRel pl M u cu)
  (p1:off+u.cells.length<=y.cells.length)(p2:z.cells.length=y.cells.length)(p3:Sc z)
  (p4:∀j q,z.cells[j]?=some q->(off<=j/\j<off+u.cells.length/\u.cells[j-off]?=some q)\/((j<off\/off+u.cells.length<=j)/\y.cells[j]?=some q)):
  i*sz+off+cu.cells.toList.length<=c.size/\InMem pl M (over c (i*sz+off) cu.cells.toList) 0 sz (xs.set i z):=by
 have hyel:=hm.elem y (bC hy);have hfy:=Ih hm hy;have hcs:=hu.cells;have hcl:cu.cells.toList.length=u.cells.length:=by rw[hcs.len];simp
 have hlen:i*sz+off+cu.cells.toList.length<=c.size:=by rw[hcl];omega
 have hilt:i<xs.length:=(fP.1 hy).1;refine⟨hlen,by rw[lz hlen,lQ];exact hm.fit,λy' hy'=>?_,λi' y' j' z' hi' hj'=>?_⟩
 ·obtain⟨k,hk⟩:=GU.1 hy';rw[CO]at hk;by_cases hik:i=k
  ·subst hik;rw[if_pos rfl,if_pos hilt]at hk;simp at hk;subst hk;exact⟨by rw[p2];exact hyel.1,p3⟩
  ·rw[if_neg hik]at hk;exact hm.elem y' (bC hk)
 ·rw [CO]at hi';by_cases hii:i=i'
  ·subst hii;rw[if_pos rfl,if_pos hilt]at hi';simp at hi';subst hi';rcases p4 j' z' hj' with⟨r1,r2,r3⟩|⟨r1,r2⟩
   ·have e5:0+i*sz+j'=(i*sz+off)+(j'-off):=by omega
    rw[e5,pg hlen (by omega),xg];exact hcs.at_ _ _ r3
   ·rw[jA hlen (by omega)];exact hm.cell i y j' z' hy r2
  ·rw[if_neg hii]at hi';have hjl:j'<sz:=by
    have:=(fP.1 hj').1;rw[(hm.elem y' (bC hi')).1]at this;exact this
   have:0+i'*sz+j'<i*sz+off\/i*sz+off+cu.cells.toList.length<=0+i'*sz+j':=by
    rcases fg i' i with hlt|hge
    ·have:=e9 sz hlt;rw[qE]at this;left;omega
    ·have h9:i+1<=i':=by omega
     have:=e9 sz h9;rw[kQ]at this;right;rw[hcl];omega
   rw[jA hlen this];exact hm.cell i' y' j' z' hi' hj'
theorem Og(hr:cS pl M h w){x u:AV}{cx cu:Value}(hx:VRel pl M x cx)(hu:VRel pl M u cu){n:Nat}{ty:TypeId}(h2:dV P ty=some n)
  (e:tq n h (some x) (some u)=some h'):∃w',(Instr.storeAt ty cx cu).run P w=.ok () w'/\cS pl M h' w'/\dK h pl M w h' pl M w'/\h'.n=h.n:=by
 unfold tq at e;split at e
 ·rename_i id ep i off u' e0 e1;simp at e0 e1;subst e0;subst e1;split at e
  ·rename_i sz op ep' xs hg;rw[aD,aD]at e;by_cases he:ep=ep'
   ·by_cases hn:u.cells.length=n
    ·by_cases hfl:fj u=true
     ·simp[he,hn,hfl]at e;rw[ow]at e;cases hxi:xs[i]? with
      |none=>simp[hxi]at e
      | some y=>
       simp[hxi]at e;cases hpe:uD y off u with
       |none=>simp[hpe]at e
       | some z=>
        simp[hpe]at e;have hx':=hx;cases hx with
        |ptr hp hle ha=>
         obtain⟨p,c,t,q1,q2,q3,q4,q5,q6,q7,q8,q9,q10⟩:=Q3 hr hx' hg he;have hsu:=hu.sc hfl;have hyel:=q10.elem y (bC hxi);obtain⟨p1,p2,p3,p4⟩:=J1 hpe hyel.2 hsu hfl;obtain⟨hlen,hmem⟩:=q10.put hxi hu p1 p2 p3 p4;have hcs:=hu.cells;have hst:=qV (P:=P) (w:=w) q3 hlen (hcs.one hsu);obtain⟨r1,r2⟩:=cS.store (ys:=xs.set i z) hr q1 hg q3 (by omega) q5 q6 q7 q8 q9 (by simp) hlen hmem;refine⟨_,?_,by rw[<-e];exact r1,by rw[<-e];exact r2,by rw[<-e];rfl⟩;have hcn:cu.cells.size=n:=by rw[<-hn,hcs.len]
         rw[q2];simp[Instr.storeAt,Instr.sureAddr,storeVar,dZ h2,hcn,hst]
     ·simp[hfl]at e
    ·simp[hn]at e
   ·simp[he]at e
  ·simp at e
 ·simp at e
theorem Rv(t:TypeId)(x y:Operand):jJ P G (.store t x y):=by
 intro pl M A h v h' a w dst ty pos after guard hg hr hf he;simp only[fc]at he;cases h2:dV P t with
 |none=>simp only[h2]at he;exact(ab he).elim
 | some n=>
  simp only[h2]at he;cases hx:(cA G x).run A with
  |none=>simp[hx,tq,ww]at he
  | some xv=>
   cases hy:(cA G y).run A with
   |none=>simp[hx,hy,tq,ww]at he
   | some yv=>
    simp only[hx,hy]at he;cases hs:tq n h (some xv) (some yv)with
    |none=>simp[hs,ww]at he
    |some h1=>
     simp[hs,ww]at he;obtain⟨rfl,rfl⟩:=he;obtain⟨w',k1,k2,k3,k4⟩:=Og (P:=P) hr (bK hg hf hx) (bK hg hf hy) h2 hs;exact⟨pl,M,undef,w',.skip,by simp[execOp,k1],.inr ⟨rfl,rfl⟩,.tuple rfl (λj y h=>by simp at h),k2,k3,by omega⟩
end
section
variable{P:Program}{G:fz}{pl:Pl}{M:dN}{h h':AHeap}{w w':World}{v:AV}{A:Fr}{a:Act}
theorem ig{x:AV}{cx:Value}{n:Nat}(hx:VRel pl M x cx)(e:gX x=some n):∃k,cx=.int k (n:Int):=by
 obtain⟨k,rfl⟩:=KK e;cases hx
 simp_all
theorem AK{s id ep:Nat}{xs:laa}(e:qS s h id ep=some xs):∃op,h.get id=some (.row s op ep xs):=by grind[qS,aD]
theorem nZ(hr:cS pl M h w){id ep off len sz:Nat}{cap:lan}{op:Bool}{xs:laa}{cx:Value}(hx:VRel pl M (.slice id ep off len cap) cx)
  (hg:h.get id=some (.row sz op ep xs)):∃p c t ad cap',pl id=some p/\cx=.slice (some ad) len cap'/\w.heap[p.blk]?=some (.cells c t (0,0))/\
   p.ep=ep/\p.sz=sz/\p.n=xs.length/\p.tot=c.size/\0<sz/\(op=false->c.size=xs.length*sz)/\InMem pl M c 0 sz xs/\
   len<=cap'/\(∀k,cap=some k->cap'=k)/\(cap'=0\/ad=⟨p.blk,off*sz,none⟩)/\(off+cap')*sz<=c.size/\off+len<=xs.length/\(cap=none->xs.length<=off+cap')/\(∀k,cap=some k->off+k<=xs.length):=by
 cases hx with
 | slice hp hle hl hk ha=>
  rename_i cap' ad p;have ho:=hr.obj id p _ hp hg;cases hb:w.heap[p.blk]? with
  |none=>grind[bm]
  |some ob=>
   rw[hb]at ho;cases ob<;>simp only[bm]at ho
   grind
theorem HE{n s:Nat}{x ix v:AV}{cx ci:Value}(hx:VRel pl M x cx)(hi:VRel pl M ix ci){t e:TypeId}(ht:P.underlying t=some (.array n e))(hs:dV P e=some s)
  (he:oP n s (some x) (some ix)=some v)(w:World):∃ad,(Instr.indexAt t cx ci).run P w=.ok (.pointer (some ad)) w/\VRel pl M v (.pointer (some ad)):=by
 simp only[oP]at he;cases hn:gX ix with
 |none=>simp_all
 |some i=>
  rw[hn]at he;simp only[dG]at he;by_cases hlt:i<n
  ·simp[hlt]at he;obtain⟨k,rfl⟩:=ig hi hn;obtain⟨ad,rfl,k2⟩:=Dv he hx;refine⟨_,?_,k2⟩;simp[Instr.indexAt,asIntOf,run_underlying ht,Instr.sureAddr,dZ hs,hlt]
  simp_all
theorem tO(hr:cS pl M h w){s:Nat}{x ix v:AV}{cx ci:Value}(hx:VRel pl M x cx)(hi:VRel pl M ix ci){t e:TypeId}(ht:P.underlying t=some (.slice e))(hs:dV P e=some s)
  (he:jL s h (some x) (some ix)=some v):∃ad,(Instr.indexAt t cx ci).run P w=.ok (.pointer (some ad)) w/\VRel pl M v (.pointer (some ad)):=by
 unfold jL at he;split at he
 ·rename_i id ep off len cap ix' e0 e1;simp at e0 e1;subst e0;subst e1;split at he
  ·rename_i i xs hn hrow;rw[dG]at he;by_cases hlt:i<len
   ·simp[hlt]at he;subst he;obtain⟨op,hg⟩:=AK hrow;obtain⟨k,rfl⟩:=ig hi hn;obtain⟨p,c,t',ad,cap',q1,rfl,q3,q4,q5,q6,q7,q8,q9,q10,q11,q12,q13,q14,q15,q16,q17⟩:=nZ hr hx hg;have had:ad=⟨p.blk,off*s,none⟩:=by grind
    subst had;refine⟨⟨p.blk,off*s+i*s,none⟩,?_,.ptr q1 (by omega) λ_=>?_⟩
    ·simp[Instr.indexAt,asIntOf,run_underlying ht,dZ hs,hlt,Addr.add_lit]
    grind
   simp_all
  simp_all
 ·rename_i xs tight ix' e0 e1;simp at e0 e1;subst e0;subst e1;split at he
  ·rename_i i hn;rw[ow]at he;cases hxi:xs[i]? with
   |none=>simp_all
   | some y=>
    rw[hxi]at he;simp only[aD]at he;by_cases hy:y.cells.length=s
    ·simp[hy]at he;subst he;obtain⟨k,rfl⟩:=ig hi hn;have hilt:i<xs.length:=(fP.1 hxi).1;cases hx with
     |ps hl htt hm hs2 hc=>
      rename_i ad cap sz c;have hne:xs≠[]:=by grind
      have hsz:sz=s:=by grind
      subst hsz;obtain⟨hspot,hm2⟩:=hm hne;refine⟨⟨ad.block,ad.off+i*sz+0,none⟩,?_,.pptr ⟨hspot,hm2⟩ hs2 hilt hc⟩;have had:ad=⟨ad.block,ad.off,none⟩:=by cases ad;simp_all
      rw[had];simp[Instr.indexAt,asIntOf,run_underlying ht,dZ hs,hilt,Addr.add_lit]
    simp_all
  simp_all
 simp_all
theorem HF(hr:cS pl M h w){s:Nat}{x ix v:AV}{cx ci:Value}(hx:VRel pl M x cx)(hi:VRel pl M ix ci){t e:TypeId}(ht:P.underlying t=some (.slice e))(hs:dV P e=some s)
  (he:lO s h (some x) (some ix)=some v):∃ad,(Instr.indexAt t cx ci).run P w=.ok (.pointer (some ad)) w/\VRel pl M v (.pointer (some ad)):=by
 unfold lO at he;split at he
 ·rename_i xs e0;simp at e0;subst e0;cases hx with
  |lsn=>grind[jL,jI]
  |lsp hx _=>grind[tO]
 ·rename_i q;cases q
  cases hx with
  |sl0s hx=>grind[tO]
  |sl0n hx=>
   unfold jL at he;simp only at he;split at he
   ·cases(he:(none:lae)=some v)
   ·grind
 grind[tO]
theorem E2(t:TypeId)(x i:Operand):jJ P G (.indexAddr t x i):=by
 intro pl M A h v h' a w dst ty pos after guard hg hr hf he;simp only[fc]at he;cases hu:P.underlying t with
 |none=>grind[ab]
 | some d=>
  rw[hu]at he;cases d<;>try exact(ab he).elim
  case array n e=>
   cases hs:dV P e with
   |none=>grind[ab]
   | some s=>
    cases s with
    |zero=>grind[ab]
    | succ s=>
     simp only[hs]at he;obtain⟨u,e1,e2⟩:=bF he;simp at e2;obtain⟨rfl,rfl⟩:=e2;cases hx:(cA G x).run A with
     | none=>
      cases hi:(cA G i).run A with
      |none=>grind[oP]
      |some iv=>
       simp only[hx,hi,oP,offset]at e1;split at e1<;>(try split at e1)<;>simp at e1
     | some xv=>
      cases hi:(cA G i).run A with
      |none=>grind[oP]
      |some iv=>
       rw[hx,hi]at e1;obtain⟨ad,k1,k2⟩:=HE (P:=P) (bK hg hf hx) (bK hg hf hi) hu hs e1 w;simp_all[execOp,qr.pure]
  case slice e=>
   cases hs:dV P e with
   |none=>grind[ab]
   | some s=>
    cases s with
    |zero=>grind[ab]
    | succ s=>
     simp only[hs]at he;obtain⟨u,e1,e2⟩:=bF he;simp at e2;obtain⟨rfl,rfl⟩:=e2;cases hx:(cA G x).run A with
     |none=>grind[lO,jL]
     | some xv=>
      cases hi:(cA G i).run A with
      |none=>rw[hx,hi]at e1;cases xv<;>simp[lO,jL]at e1
      |some iv=>
       rw[hx,hi]at e1;obtain⟨ad,k1,k2⟩:=HF (P:=P) hr (bK hg hf hx) (bK hg hf hi) hu hs e1;simp_all[execOp,qr.pure]
theorem Rb(t:TypeId)(x i:Operand):jJ P G (.index t x i):=by
 intro pl M A h v h' a w dst ty pos after guard hg hr hf he;simp only[fc]at he;cases hu:P.underlying t with
 |none=>grind[ab]
 | some d=>
  rw[hu]at he;cases d<;>try exact(ab he).elim
  case array n e=>
   cases h1:dW P e with
   |none=>grind[ab]
   | some ag=>
    cases h2:dV P e with
    |none=>grind[ab]
    | some s=>
     simp only[h1,h2]at he;obtain⟨u,e1,e2⟩:=bF he;simp at e2;obtain⟨rfl,rfl⟩:=e2;cases hx:(cA G x).run A with
     |none=>grind[JZ]
     | some xv=>
      cases hi:(cA G i).run A with
      |none=>grind[JZ]
      | some iv=>
       have hxv:=bK hg hf hx;have hiv:=bK hg hf hi;rw[hx,hi]at e1;cases xv<;>simp[JZ]at e1
       rename_i cs;cases hn:gX iv with
       |none=>simp_all
       | some k=>
        rw[hn]at e1;simp only[dG]at e1;by_cases hlt:k<n
        ·simp[hlt]at e1;obtain⟨kd,hci⟩:=ig hiv hn;generalize hq:a.eval x=cx at hxv;cases hxv with
         |agg g1 g2 g3=>
          obtain⟨cv,k1,k2⟩:=GP (P:=P) ⟨g1,g3⟩ g2 h1 h2 e1;simp_all[execOp,Instr.index,asIntOf,run_underlying,dZ,qr.pure]
        simp_all
  case string=>
   obtain⟨u,e1,e2⟩:=bF he;simp at e2;obtain⟨rfl,rfl⟩:=e2;cases hx:(cA G x).run A with
   |none=>grind[JQ]
   | some xv=>
    cases hi:(cA G i).run A with
    |none=>grind[JQ]
    | some iv=>
     have hxv:=bK hg hf hx;have hiv:=bK hg hf hi;rw[hx,hi]at e1;cases xv<;>simp[JQ]at e1
     rename_i s;cases hn:gX iv with
     |none=>simp_all
     | some k=>
      rw[hn]at e1;simp only[ow]at e1;cases hsk:s[k]? with
      |none=>simp_all
      | some b=>
       simp[hsk]at e1;subst e1;obtain⟨kd,hci⟩:=ig hiv hn;generalize hq:a.eval x=cx at hxv;cases hxv
       have hg2:(⟨⟨s⟩⟩:ByteArray)[k]?=some b:=by
        obtain⟨hlt,hb⟩:=fP.1 hsk;have hlt2:k<(⟨⟨s⟩⟩:ByteArray).size:=hlt;rw[getElem?_pos (⟨⟨s⟩⟩:ByteArray) k hlt2];exact congrArg some hb
       have hv:VRel pl M (.int .u8 (b.toNat:Int)) (.int .u8 (b.toNat:Int)):=.int _ _;simp_all[execOp,Instr.index,asIntOf,run_underlying,qr.pure]
end
end Go.Ev
