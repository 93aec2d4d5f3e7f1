/- An abstract machine for runs of the program, proved sound against the model: part 1. No conditions. -/
import GoSem.Dispatch
import GoSem.Core.Machine
import GoSem.Machine.Frame
import Derived.Orders
import Derived.Calls
import Derived.WalkKit
import Derived.Deep.AppendSrc
import Derived.Deep.MidRow
namespace Go.Ev
open Go
abbrev vf:=@Nat.le_of_ble_eq_true
abbrev tD:=@Nat.ble_eq_true_of_le
abbrev dO:=@List.mem_cons
abbrev af:=@Nat.le_refl
abbrev bO:=@Nat.le_trans
abbrev DN:=@Bool.eq_iff_iff
abbrev ve:=@Option.some.injEq
abbrev kE:=@List.getElem?_eq_getElem
abbrev DM:=@List.getElem_mem
abbrev Pr:=@List.mem_of_mem_drop
abbrev sV:=@List.mem_of_mem_take
abbrev gv:=@Array.getD_eq_getD_getElem?
abbrev fp:=@List.getElem?_eq_some_iff
abbrev bh:=@List.mem_of_getElem?
abbrev eD:=@Nat.mul_le_mul_right
abbrev jI:=@Nat.add_mul
abbrev oY:=@List.getElem?_toArray
abbrev jy:=@List.append_assoc
abbrev oV:=@List.getElem?_append_right
abbrev sK:=@List.getElem?_append_left
abbrev LX:=@List.getElem?_take_of_lt
abbrev Pt:=@List.take_succ_eq_append_getElem
abbrev wo:=@Array.getElem?_modify
abbrev cM:=@List.length_cons
abbrev FB:=@List.mem_iff_getElem?
abbrev kH:=@List.length_set
abbrev Cv:=@List.getElem?_set
abbrev fm:=@Nat.lt_or_ge
abbrev qz:=@Nat.succ_mul
abbrev sJ:=@List.eq_nil_of_length_eq_zero
abbrev gp:=@List.length_nil
abbrev bz:=@Bool.and_eq_true
abbrev yM:=@List.cons_append
abbrev yL:=@Option.getD_some
abbrev fN:=@Bool.false_eq_true
abbrev yI:=@Bool.and_false
abbrev yH:=@Bool.and_self
abbrev mE:=@List.foldl_cons
abbrev eg:=@List.map_cons
abbrev pH:=@Nat.add_zero
abbrev yG:=@List.nil_append
abbrev nG:=@Nat.le_succ
abbrev qq:=@List.getElem?_map
abbrev fK:=@List.mem_append
abbrev FA:=@Array.size_append
abbrev Cw:=@List.size_toArray
abbrev eX:=@List.length_append
abbrev qU:=@List.length_pos_iff
abbrev fL:=@Nat.zero_add
abbrev qY:=@List.length_replicate
abbrev gn:=@List.mem_map
abbrev sW:=@Array.getElem?_eq_some_iff
abbrev ig:=@List.mem_singleton
abbrev bA:=@Nat.zero_le
abbrev Ck:=@List.getElem?_of_mem
abbrev wm:=@Nat.lt_irrefl
abbrev yF:=@List.range'_succ
abbrev Fu:=@Option.some.inj
abbrev Cj:=@Nat.succ_lt_succ
abbrev tC:=@Bool.or_eq_true
abbrev Cx:=@Bool.or_eq_false_iff
abbrev mw:=@List.all_eq_true
abbrev pG:=@Nat.not_lt_zero
abbrev wl:=@Nat.le_of_eq
abbrev Ft:=@Nat.lt_of_lt_of_le
abbrev eC:=@List.mem_cons_of_mem
abbrev tu:=@Prod.mk.injEq
abbrev Cz:=@List.getElem?_cons_zero
abbrev Cq:=@List.drop_drop
abbrev LZ:=@List.take_append_drop
abbrev ef:=@List.append_nil
abbrev wi:=@List.mem_map_of_mem
abbrev b9:=@List.length_map
abbrev qV:=@Nat.beq_refl
abbrev CU:=@List.take_zero
abbrev eR:=@List.mem_cons_self
abbrev CY:=@List.getElem_of_mem
abbrev th:=@List.take_of_length_le
abbrev CV:=@Bool.not_false
abbrev CK:=@List.cons.injEq
abbrev CJ:=@Array.getElem?_eq_getElem
abbrev Fp:=@Option.map_eq_some_iff
abbrev Fo:=@List.pairwise_iff_getElem
abbrev jH:=@List.pairwise_cons
abbrev aM:=@Int.ofNat_eq_natCast
abbrev Ps:=@List.drop_eq_getElem_cons
abbrev Fm:=@List.drop_eq_nil_of_le
abbrev yE:=@List.mem_append_left
abbrev tg:=@List.mem_append_right
abbrev pF:=@Nat.eq_of_beq_eq_true
abbrev nF:=@Nat.lt_of_le_of_lt
abbrev yD:=@List.length_drop
abbrev oK:=@Bool.and_eq_true_iff
abbrev CW:=@List.flatMap_cons
abbrev tf:=@List.mem_filter
abbrev wg:=@List.map_nil
abbrev qK:=@Nat.succ_pos
abbrev oJ:=@List.map_append
abbrev Pp:=@List.eraseIdx_eq_take_drop_succ
abbrev LQ:=@List.Perm.append_left
abbrev yO:=@List.nodup_append
abbrev Pu:=@List.perm_append_comm
abbrev mJ:=@Bool.not_not
abbrev oS:=@Nat.le_of_lt
abbrev aJ:=@Eq.refl
abbrev ii:=@List.cons_ne_nil
abbrev qx:=@List.any_eq_true
abbrev yN:=@Nat.lt_of_succ_lt
noncomputable section
inductive AV where
 |bool (b:Bool)
 |int (k:IntKind) (n:Int)
 |str (s:List UInt8)
 |nilp
 |ptr (id ep i off:Nat)
 |pptr (xs:List AV) (i off:Nat)
 |nils
 |slice (id ep off len:Nat) (cap:Option Nat)
 |sl0 (id ep len:Nat) (cap:Option Nat)
 |ps (xs:List AV) (tight:Bool)
 |ls (xs:List AV)
 |nilm
 |map (id:Nat)
 |func (fn:Fn) (first captured:List AV)
 |nilf
 |iface (t:TypeId) (v:AV)
 |nili
 |agg (cs:List AV)
 |tuple (vs:List AV)
 deriving Inhabited
abbrev gj:AV:=.tuple []
def AV.cells:AV->List AV
 | .agg cs=>cs
 |v=>[v]
structure AEnt where
 key:AV
 val:AV
 born:Nat
 deriving Inhabited
inductive AObj where
 |dead
 |row (sz:Nat) (open_:Bool) (ep:Nat) (xs:List AV)
 |map (es:List AEnt) (clock:Nat)
 |siter (s:List UInt8) (pos:Nat)
 |miter (m:AV) (clock:Nat) (seen:List Nat)
 deriving Inhabited
inductive Tr(α:Type) where
 |nil
 |node (l:Tr α) (v:Option α) (r:Tr α)
instance {α:Type}:Inhabited (Tr α):=⟨.nil⟩
def Tr.get{α:Type}(t:Tr α):Nat->Option α:=
 @Tr.rec α (fun _=>Nat->Option α) (fun _=>none)
  (fun _ v _ il ir n=>@Nat.casesOn (fun _=>Option α) n v fun m=>@Nat.casesOn (fun _=>Option α) (m%2) (il (m/2)) fun _=>ir (m/2)) t
def Tr.set{α:Type}(d:Nat):Tr α->Nat->α->Tr α:=
 @Nat.rec (fun _=>Tr α->Nat->α->Tr α) (fun t _ _=>t)
  (fun _ ih t n x=>@Tr.casesOn α (fun _=>Tr α) t
   (@Nat.casesOn (fun _=>Tr α) n (.node .nil (some x) .nil) fun m=>@Nat.casesOn (fun _=>Tr α) (m%2) (.node (ih .nil (m/2) x) none .nil) fun _=>.node .nil none (ih .nil (m/2) x))
   (fun l v r=>@Nat.casesOn (fun _=>Tr α) n (.node l (some x) r) fun m=>@Nat.casesOn (fun _=>Tr α) (m%2) (.node (ih l (m/2) x) v r) fun _=>.node l v (ih r (m/2) x))) d
structure AHeap where
 n:Nat
 t:Tr AObj
 deriving Inhabited
def AHeap.get(h:AHeap)(id:Nat):Option AObj:=match Nat.blt id h.n&&Nat.blt id 1000000 with|true=>h.t.get id|false=>none
def AHeap.put(h:AHeap)(id:Nat)(o:AObj):AHeap:=⟨h.n,h.t.set 20 id o⟩
def AHeap.push(h:AHeap)(o:AObj):AHeap:=⟨h.n+1,match Nat.blt h.n 1000000 with|true=>h.t.set 20 h.n o|false=>h.t⟩
def AHeap.cut(h:AHeap)(n:Nat):AHeap:=⟨n,h.t⟩
def AHeap.none:AHeap:=⟨0,.nil⟩
structure Fr where
 n:Nat
 t:Tr AV
 deriving Inhabited
def Fr.get(A:Fr)(i:Nat):Option AV:=A.t.get i
def Fr.put(A:Fr)(i:Nat)(v:AV):Option Fr:=match Nat.blt i A.n with|true=>some ⟨A.n,A.t.set 16 i v⟩|false=>none
inductive ARes where
 |val (v:AV) (h:AHeap)
 |call (f:FuncId) (args:List AV)
def jC:Value->Option AV
 | .bool b=>some (.bool b)
 | .int k n=>some (.int k n)
 | .string s=>some (.str s.data.toList)
 | .pointer none=>some .nilp
 | .slice none n m=>match n,m with
  |0,0=>some .nils
  |_,_=>none
 | .map none=>some .nilm
 | .nilFunc=>some .nilf
 | .nilIface=>some .nili
 | .func fn a b=>match a.toList,b.toList with
  |[],[]=>some (.func fn [] [])
  |_,_=>none
 |_=>none
def pU:List Value->Option (List AV)
 |[]=>some []
 |c::r=>match jC c,pU r with
  |some v,some vs=>some (v::vs)
  |_,_=>none
def ofValue:Value->Option AV
 | .agg cs=>match pU cs.toList with
  |some as=>some (.agg as)
  |none=>none
 | .tuple vs=>match vs.toList with
  |[]=>some (.tuple [])
  |_=>none
 |c=>jC c
section
variable(P:Program)
def ia(t:TypeId):Option AV:=match P.info? t with|some i=>(match i.zero with|some z=>ofValue z|none=>none)|none=>none
def cP(t:TypeId):Option Nat:=match P.info? t with|some i=>some i.size|none=>none
def cH(t:TypeId):Option Bool:=match P.underlying t with|some (.struct _)|some (.array _ _)=>some true|some _=>some false|none=>none
def fieldsOf(t:TypeId):Option (Array Field):=match P.underlying t with|some (.struct fs)=>some fs|_=>none
def eM(t:TypeId):Option TypeId:=match P.underlying t with|some (.slice e)=>some e|_=>none
def pa(f:TypeId->Nat->Option (List (Nat×Nat)))(sz off:Nat):List Field->Option (List (Nat×Nat))
 |[]=>some []
 |x::r=>match decide (x.name= "_"),cP P x.type,f x.type (off+x.offset),pa f sz off r with
  |false,some s,some a,some b=>match Nat.ble (x.offset+s) sz with|true=>some (a++b)|false=>none
  |_,_,_,_=>none
def qv:TypeDesc->Option Nat
 | .bool=>some 0
 | .int _=>some 1
 | .string=>some 2
 |_=>none
def dH:Nat->TypeId->Nat->Option (List (Nat×Nat))
 |0,_,_=>none
 | n+1,t,off=>
  match P.underlying t,cP P t with
  |some (.struct fs),some sz=>match P.stoodInHeld t with
   |true=>none
   |false=>pa P (dH n) sz off fs.toList
  |some d,some 1=>match qv d with
   |some k=>some [(off,k)]
   |none=>none
  |_,_=>none
end
def jo{α:Type}:List α->Nat->Option α
 |[],_=>none
 |x::r,n=>match n with|0=>some x|m+1=>jo r m
def ux(ag:Bool)(n:Nat)(cs:List AV)(off:Nat):Option AV:=
 match ag with
 |true=>match Nat.ble (off+n) cs.length with|true=>some (.agg ((cs.drop off).take n))|false=>none
 |false=>jo cs off
def o9(cs:List AV)(off:Nat)(new:List AV):List AV:=cs.take off++new++cs.drop (off+new.length)
def zC(ag:Bool)(n:Nat)(off:Nat):Option AV->Option AV
 |some x=>ux ag n x.cells off
 |none=>none
def Ay(ag:Bool)(n:Nat)(h:AHeap):Option AV->Option AV
 |some (.ptr id ep i off)=>
  match h.get id with
  |some (.row _ _ ep' xs)=>match Nat.beq ep ep' with|true=>zC ag n off (jo xs i)|false=>none
  |_=>none
 |some (.pptr xs i off)=>zC ag n off (jo xs i)
 |_=>none
def uK(old:AV)(off:Nat)(v:AV):Option AV:=
 match old with
 | .agg cs=>match Nat.ble (off+v.cells.length) cs.length with|true=>some (.agg (o9 cs off v.cells))|false=>none
 | .tuple _=>none
 |_=>match off,v with
  |0,.agg _|0,.tuple _=>none
  |0,v=>some v
  |_,_=>none
def fZ:AV->Bool
 | .tuple _=>false
 |_=>true
def sC(n:Nat)(h:AHeap):Option AV->Option AV->Option AHeap
 | some (.ptr id ep i off),some v=>
  match h.get id with
  | some (.row sz op ep' xs)=>
   match Nat.beq ep ep'&&Nat.beq v.cells.length n&&fZ v with
   | true=>match jo xs i with
    |some x=>match uK x off v with
     |some y=>some (h.put id (.row sz op ep' (xs.set i y)))
     |none=>none
    |none=>none
   |false=>none
  |_=>none
 |_,_=>none
def offset (n:Nat):Option AV->Option AV
 |some (.ptr id ep i off)=>some (.ptr id ep i (off+n))
 |some (.pptr xs i off)=>some (.pptr xs i (off+n))
 |_=>none
def fP:AV->Option Nat
 | .int _ (.ofNat n)=>some n
 |_=>none
def jK(d:Nat):Option AV->Option Nat
 |some v=>fP v
 |none=>some d
def og(n s:Nat)(x ix:Option AV):Option AV:=
 match ix with
 |some ix=>match fP ix with
  |some i=>match Nat.blt i n with|true=>offset (i*s) x|false=>none
  |none=>none
 |none=>none
def qh(s:Nat)(h:AHeap)(id ep:Nat):Option (List AV):=
 match h.get id with
 |some (.row sz _ ep' xs)=>match Nat.beq sz s&&Nat.beq ep ep' with|true=>some xs|false=>none
 |_=>none
def jp(s:Nat)(h:AHeap)(x ix:Option AV):Option AV:=
 match x,ix with
 |some (.slice id ep off len _),some ix=>match fP ix,qh s h id ep with
  |some i,some _=>match Nat.blt i len with|true=>some (.ptr id ep (off+i) 0)|false=>none
  |_,_=>none
 | some (.ps xs _),some ix=>match fP ix with
  |some i=>match jo xs i with
   |some y=>match Nat.beq y.cells.length s with|true=>some (.pptr xs i 0)|false=>none
   |none=>none
  |none=>none
 |_,_=>none
def lF(s:Nat)(h:AHeap)(x ix:Option AV):Option AV:=
 match x with
 |some (.ls xs)=>jp s h (some (.ps xs false)) ix
 |some (.sl0 id ep len c)=>jp s h (some (.slice id ep 0 len c)) ix
 |x=>jp s h x ix
def Iu(n:Nat)(ag:Bool)(s:Nat)(x ix:Option AV):Option AV:=
 match x,ix with
 |some (.agg cs),some ix=>match fP ix with
  |some i=>match Nat.blt i n with|true=>ux ag s cs (i*s)|false=>none
  |none=>none
 |_,_=>none
def Is(x ix:Option AV):Option AV:=
 match x,ix with
 |some (.str s),some ix=>match fP ix with
  |some i=>match jo s i with|some b=>some (.int .u8 (.ofNat b.toNat))|none=>none
  |none=>none
 |_,_=>none
def lp(x:Option AV)(lo hi:Option AV):Option AV:=
 match x with
 |some (.str s)=>
  match jK s.length hi,jK 0 lo with
  |some h,some l=>match Nat.ble l h&&Nat.ble h s.length with|true=>some (.str ((s.take h).drop l))|false=>none
  |_,_=>none
 |_=>none
def room(n off:Nat):Option Nat->Nat
 |some c=>c
 |none=>n-off
def pP(id ep off l h m:Nat)(cap:Option Nat):Option AV:=
 match Nat.ble l h&&Nat.ble h m with
 | true=>match cap with
  |some c=>match Nat.beq c l with
   |true=>some (.slice id ep 0 0 (some 0))
   |false=>some (.slice id ep (off+l) (h-l) (some (c-l)))
  |none=>some (.slice id ep (off+l) (h-l) none)
 |false=>none
def u0(xs:List AV)(l h:Nat)(tight:Bool):Option AV:=
 match Nat.ble l h&&Nat.ble h xs.length with
 |true=>some (.ps ((xs.take h).drop l) tight)
 |false=>none
def pc(s:Nat):List AV->Bool
 |[]=>true
 |x::_=>Nat.beq x.cells.length s
def gV(s:Nat)(hp:AHeap)(x:Option AV)(lo hi mx:Option AV):Option AV:=
 match x with
 | some (.slice id ep off len cap)=>
  match qh s hp id ep with
  | some xs=>
   match jK 0 lo with
   | some l=>
    match mx,hi with
    |none,hi=>match jK len hi with
     |some h=>pP id ep off l h (room xs.length off cap) cap
     |none=>none
    | some m,some hi=>match fP m,fP hi with
     |some m,some h=>match Nat.ble m (room xs.length off cap)with
      |true=>pP id ep off l h m (some m)
      |false=>none
     |_,_=>none
    |some _,none=>none
   |none=>none
  |none=>none
 | some (.ps xs tight)=>
  match pc s xs with
  | true=>
   match jK 0 lo with
   | some l=>
    match mx,hi with
    |none,hi=>match jK xs.length hi with
     |some h=>u0 xs l h (tight&&Nat.beq h xs.length)
     |none=>none
    |some m,some hi=>match fP m,fP hi with
     |some m,some h=>match Nat.beq h m with|true=>u0 xs l h true|false=>none
     |_,_=>none
    |some _,none=>none
   |none=>none
  |false=>none
 | some .nils=>
  match jK 0 lo,mx,hi with
  |some 0,none,hi=>match jK 0 hi with
   |some 0=>some .nils
   |_=>none
  |some 0,some m,some hi=>match fP m,fP hi with
   |some 0,some 0=>some .nils
   |_,_=>none
  |_,_,_=>none
 |_=>none
def GR:Option AV->Option AV
 |some (.ps ys _)=>some (.ls ys)
 |_=>none
def dq(s:Nat)(hp:AHeap)(x:Option AV)(lo hi mx:Option AV):Option AV:=
 match x with
 |some (.ls xs)=>match mx with
  |none=>GR (gV s hp (some (.ps xs false)) lo hi none)
  |some _=>none
 |x=>gV s hp x lo hi mx
def U2:List UInt8->List UInt8->Bool
 |_,[]=>false
 |[],_::_=>true
 |a::x,b::y=>Nat.blt a.toNat b.toNat||(Nat.beq a.toNat b.toNat&&U2 x y)
def dM:List UInt8->List UInt8->Bool
 |[],[]=>true
 |a::x,b::y=>Nat.beq a.toNat b.toNat&&dM x y
 |_,_=>false
def ay:Int->Int->Bool
 | .ofNat a,.ofNat b=>Nat.beq a b
 | .negSucc a,.negSucc b=>Nat.beq a b
 |_,_=>false
def aB:Int->Int->Bool
 | .ofNat a,.ofNat b=>Nat.blt a b
 | .negSucc a,.negSucc b=>Nat.blt b a
 | .negSucc _,.ofNat _=>true
 | .ofNat _,.negSucc _=>false
def kL:IntKind->IntKind->Bool
 | .i8,.i8 | .i16,.i16 | .i32,.i32 | .i64,.i64 | .u8,.u8 | .u16,.u16 | .u32,.u32 | .u64,.u64=>true
 |_,_=>false
def oa:Option Nat->Option Nat->Bool
 |none,none=>true
 |some a,some b=>Nat.beq a b
 |_,_=>false
mutual
def Ts:AV->AV->Bool
 | .bool a,.bool b=>a==b
 | .int j a,.int k b=>kL j k&&ay a b
 | .str a,.str b=>dM a b
 | .nilp,.nilp | .nils,.nils | .nilm,.nilm | .nilf,.nilf | .nili,.nili=>true
 | .map a,.map b=>Nat.beq a b
 | .slice a b c d e,.slice a' b' c' d' e'=>Nat.beq a a'&&Nat.beq b b'&&Nat.beq c c'&&Nat.beq d d'&&oa e e'
 | .ps xs a,.ps ys b=>yC xs ys&&a==b
 | .iface t v,.iface u w=>Nat.beq t u&&Ts v w
 | .agg a,.agg b=>yC a b
 | .tuple a,.tuple b=>yC a b
 |_,_=>false
def yC:List AV->List AV->Bool
 |[],[]=>true
 |a::as,b::bs=>Ts a b&&yC as bs
 |_,_=>false
end
def KK(tag:Nat)(x y:AV):Option Bool:=
 match tag,x,y with
 |1,.int j a,.int k b=>match kL j k with|true=>some (ay a b)|false=>none
 |2,.str a,.str b=>some (dM a b)
 |0,.bool a,.bool b=>some (a==b)
 |_,_,_=>none
def Tt(tag:Nat)(a b:Option AV):Option Bool:=
 match a,b with
 |some a,some b=>KK tag a b
 |_,_=>none
def AH(k:Option Bool):Option Bool->Option Bool
 |some true=>k
 |some false=>some false
 |none=>none
def xN(xs ys:List AV):List (Nat×Nat)->Option Bool
 |[]=>some true
 |(i,t)::r=>AH (xN xs ys r) (Tt t (jo xs i) (jo ys i))
def Yr(ag:Option Bool)(sz:Option Nat)(lv:Option (List (Nat×Nat))):AV->AV->Option Bool
 | .agg a,.agg b=>match ag,sz,lv with
  |some true,some n,some l=>match Nat.beq a.length n&&Nat.beq b.length n with|true=>xN a b l|false=>none
  |_,_,_=>none
 | .int j a,.int k b=>match kL j k with|true=>some (ay a b)|false=>none
 | .str a,.str b=>some (dM a b)
 | .bool a,.bool b=>match ag,lv with|some false,some [(_,0)]=>some (a==b)|_,_=>none
 |_,_=>none
def HM(d:Option TypeDesc)(x y:AV):Option Bool:=
 match d,x,y with
 |some (.pointer _),.nilp,.nilp |some (.slice _),.nils,.nils |some (.map _ _),.nilm,.nilm |some (.func _ _ _),.nilf,.nilf=>some true
 |some (.pointer _),.ptr ..,.nilp |some (.pointer _),.nilp,.ptr .. |some (.slice _),.slice ..,.nils |some (.slice _),.nils,.slice .. |some (.slice _),.ps ..,.nils |some (.slice _),.nils,.ps ..
 |some (.map _ _),.map _,.nilm |some (.map _ _),.nilm,.map _|some (.func _ _ _),.func ..,.nilf |some (.func _ _ _),.nilf,.func ..=>some false
 |_,_,_=>none
def pV(k:Option Bool):Option Bool->Option Bool
 |some b=>some b
 |none=>k
def wa(f:IntKind->Int->Int->Option AV):AV->AV->Option AV
 | .int k a,.int j b=>match kL k j with|true=>f k a b|false=>none
 |_,_=>none
def O2(fi:Int->Int->Bool)(fs:List UInt8->List UInt8->Bool):AV->AV->Option AV
 | .int k a,.int j b=>match kL k j with|true=>some (.bool (fi a b))|false=>none
 | .str a,.str b=>some (.bool (fs a b))
 |_,_=>none
def Wa:AV->AV->Option AV
 | .int k a,.int j b=>match kL k j with|true=>some (.int k (k.wrap (a+b)))|false=>none
 | .str a,.str b=>match Nat.ble (a.length+b.length) (2^62)with|true=>some (.str (a++b))|false=>none
 |_,_=>none
def Zd:AV->AV->Option AV
 | .int k a,.int _ (.ofNat b)=>some (.int k (k.wrap (a*2^(min b k.bits))))
 |_,_=>none
def Zc:AV->AV->Option AV
 | .int k a,.int _ (.ofNat b)=>some (.int k (a.fdiv (2^(min b k.bits))))
 |_,_=>none
def qX(op:BinOp)(d:Option TypeDesc)(ag:Option Bool)(sz:Option Nat)(lv:Option (List (Nat×Nat)))(x y:AV):Option AV:=
 match op with
 | .add=>Wa x y
 | .sub=>wa (fun k a b=>some (.int k (k.wrap (a-b)))) x y
 | .mul=>wa (fun k a b=>some (.int k (k.wrap (a*b)))) x y
 | .quo=>wa (fun k a b=>match ay b 0 with|true=>none|false=>some (.int k (k.wrap (a.tdiv b)))) x y
 | .rem=>wa (fun k a b=>match ay b 0 with|true=>none|false=>some (.int k (a.tmod b))) x y
 | .eql=>match pV (HM d x y) (Yr ag sz lv x y)with|some b=>some (.bool b)|none=>none
 | .neq=>match pV (HM d x y) (Yr ag sz lv x y)with|some b=>some (.bool (!b))|none=>none
 | .lss=>O2 aB U2 x y
 | .leq=>O2 (fun a b=>!aB b a) (fun a b=>U2 a b||dM a b) x y
 | .gtr=>O2 (fun a b=>aB b a) (fun a b=>!(U2 a b||dM a b)) x y
 | .geq=>O2 (fun a b=>!aB a b) (fun a b=>!U2 a b) x y
 | .shl=>Zd x y
 | .shr=>Zc x y
 |_=>none
def unR(op:UnOp)(x:AV):Option AV:=
 match op,x with
 | .not,.bool b=>some (.bool !b)
 | .neg,.int k n=>some (.int k (k.wrap (0-n)))
 |_,_=>none
def ww:List AV->Option (List UInt8)
 |[]=>some []
 | .int .u8 (.ofNat n)::r=>match Nat.blt n 256 with
  |true=>match ww r with|some l=>some (UInt8.ofNat n::l)|none=>none
  |false=>none
 |_=>none
def km(h:AHeap):AV->Option (List AV)
 | .nils=>some []
 | .ps xs _=>some xs
 | .ls xs=>some xs
 | .slice id ep off len _=>
  match h.get id with
  |some (.row _ _ ep' xs)=>match Nat.beq ep ep' with|true=>some ((xs.drop off).take len)|false=>none
  |_=>none
 |_=>none
def E8(k:IntKind):Option AV->Option AV
 |some (.int _ n)=>some (.int k (k.wrap n))
 |_=>none
def E7:Option AV->Option AV
 |some (.str s)=>some (.str s)
 |_=>none
def pt(h:AHeap):Option AV->Option AV
 |some x=>match km h x with
  |some xs=>match ww xs with|some l=>some (.str l)|none=>none
  |none=>none
 |none=>none
def kp:Option AV->Option AV
 |some (.str s)=>match Nat.ble s.length (2^40)with|true=>some (.ps (s.map fun b=>.int .u8 (.ofNat b.toNat)) false)|false=>none
 |_=>none
def dA(sz:Nat):List AV->Bool
 |[]=>true
 |x::r=>Nat.beq x.cells.length sz&&fZ x&&dA sz r
def AC(cells:List AV):List ((Nat×Nat)×Option AV)->Option (List AV)
 |[]=>some cells
 |((off,size),some v)::rest=>
  match Nat.beq v.cells.length size&&Nat.ble (off+size) cells.length&&fZ v with
  |true=>AC (o9 cells off v.cells) rest
  |false=>none
 |(_,none)::_=>none
def Tb:Option (List AV)->Option AV
 |some cs=>some (.agg cs)
 |none=>none
def zb(sz:Nat)(xs:List AV):List (Nat×Option AV)->Option (List AV)
 |[]=>some xs
 |(i,some v)::r=>match Nat.blt i xs.length&&Nat.beq v.cells.length sz&&fZ v with
  |true=>zb sz (xs.set i v) r
  |false=>none
 |(_,none)::_=>none
def Xt:Option (List AV)->Option AV
 |some xs=>some (.ps xs true)
 |none=>none
def qH(ag:Bool)(sz:Nat)(lv:List (Nat×Nat))(x y:AV):Option Bool:=
 match ag,lv,x,y with
 |true,lv,.agg a,.agg b=>match Nat.beq a.length sz&&Nat.beq b.length sz with|true=>xN a b lv|false=>none
 |false,[(_,t)],x,y=>KK t x y
 |_,_,_,_=>none
def nJ(e:AEnt)(i:Nat)(k:Option (Option (Nat×AEnt))):Option Bool->Option (Option (Nat×AEnt))
 |some true=>some (some (i,e))
 |some false=>k
 |none=>none
def bv(ag:Bool)(sz:Nat)(lv:List (Nat×Nat))(k:AV):List AEnt->Nat->Option (Option (Nat×AEnt))
 |[],_=>some none
 |e::r,i=>nJ e i (bv ag sz lv k r (i+1)) (qH ag sz lv k e.key)
def G6(ag:Bool)(sz:Nat):AV->Bool
 | .agg cs=>ag&&Nat.beq cs.length sz
 | .int .. | .str _| .bool _=>!ag
 |_=>false
def jS:AV->AV->Bool
 | .int j a,.int k b=>kL j k&&ay a b
 | .str a,.str b=>dM a b
 | .bool a,.bool b=>a==b
 |_,_=>false
def jB:List AV->List AV->Bool
 |[],[]=>true
 |x::xs,y::ys=>jS x y&&jB xs ys
 |_,_=>false
def lg:AV->AV->Bool
 | .agg a,.agg b=>jB a b
 |x,y=>jS x y
def nT(ok:Bool)(v:Option AV)(b:Bool):Option AV:=
 match v with
 |some v=>match ok with|true=>some (.tuple [v,.bool b])|false=>some v
 |none=>none
def e9(z:Option AV)(ok:Bool):Option (Option (Nat×AEnt))->Option AV
 |some (some (_,en))=>nT ok (some en.val) true
 |some none=>nT ok z false
 |none=>none
def ue(ag:Bool)(sz:Nat)(lv:List (Nat×Nat))(z:Option AV)(ok:Bool)(h:AHeap)(m k:Option AV):Option AV:=
 match m,k with
 |some .nilm,some k=>match G6 ag sz k with|true=>nT ok z false|false=>none
 | some (.map id),some k=>match G6 ag sz k with
  |true=>match h.get id with
   |some (.map es _)=>e9 z ok (bv ag sz lv k es 0)
   |_=>none
  |false=>none
 |_,_=>none
def yZ(h:AHeap)(id:Nat)(es:List AEnt)(clock:Nat)(k v:AV):Option (Option (Nat×AEnt))->Option AHeap
 |some (some (i,en))=>match lg k en.key with|true=>some (h.put id (.map (es.set i {en with val:=v}) clock))|false=>none
 |some none=>some (h.put id (.map (es++[{key:=k,val:=v,born:=clock}]) (clock+1)))
 |none=>none
def rx(ag:Bool)(sz:Nat)(lv:List (Nat×Nat))(h:AHeap)(m k v:Option AV):Option AHeap:=
 match m,k,v with
 | some (.map id),some k,some v=>match G6 ag sz k with
  |true=>match h.get id with
   |some (.map es clock)=>yZ h id es clock k v (bv ag sz lv k es 0)
   |_=>none
  |false=>none
 |_,_,_=>none
def Sf(z:Option AV)(h:AHeap)(id:Nat)(es:List AEnt)(clock:Nat)(k:AV):Option (Option (Nat×AEnt))->Option (AV×AHeap)
 |some (some (i,en))=>match lg k en.key with|true=>some (.tuple [en.val,.int .i64 (.ofNat en.born)],h.put id (.map (es.set i {en with val:=en.val}) clock))|false=>none
 |some none=>match z with|some z=>some (.tuple [z,.int .i64 (.ofNat clock)],h.put id (.map (es++[{key:=k,val:=z,born:=clock}]) (clock+1)))|none=>none
 |none=>none
def od(ag:Bool)(sz:Nat)(lv:List (Nat×Nat))(z:Option AV)(h:AHeap)(m k:Option AV):Option (AV×AHeap):=
 match m,k with
 | some (.map id),some k=>match G6 ag sz k with
  |true=>match h.get id with
   |some (.map es clock)=>Sf z h id es clock k (bv ag sz lv k es 0)
   |_=>none
  |false=>none
 |_,_=>none
def Bv(n:Int):List AEnt->Nat->Option (Nat×AEnt)
 |[],_=>none
 |e::r,i=>match ay (.ofNat e.born) n with|true=>some (i,e)|false=>Bv n r (i+1)
def j5(h:AHeap)(m s x:Option AV):Option AHeap:=
 match m,s,x with
 | some (.map id),some (.int _ n),some x=>match h.get id with
  |some (.map es clock)=>match Bv n es 0 with
   |some (i,en)=>some (h.put id (.map (es.set i {en with val:=x}) clock))
   |none=>none
  |_=>none
 |_,_,_=>none
def JG:Option AV->Option AV
 |some (.str s)=>some (.int .i64 (.ofNat s.length))
 |_=>none
def Rx:Option AV->Option AV
 |some .nils=>some (.int .i64 0)
 |some (.ps xs _)=>some (.int .i64 (.ofNat xs.length))
 |some (.ls xs)=>some (.int .i64 (.ofNat xs.length))
 |some (.slice _ _ _ n _)=>some (.int .i64 (.ofNat n))
 |some (.sl0 _ _ n _)=>some (.int .i64 (.ofNat n))
 |_=>none
def JH(h:AHeap):Option AV->Option AV
 |some .nilm=>some (.int .i64 0)
 |some (.map id)=>match h.get id with|some (.map es _)=>some (.int .i64 (.ofNat es.length))|_=>none
 |_=>none
def YP:Option AV->Option AV
 |some .nils=>some (.int .i64 0)
 |some (.ps xs true)=>some (.int .i64 (.ofNat xs.length))
 |some (.slice _ _ _ _ (some c))=>some (.int .i64 (.ofNat c))
 |_=>none
def kF(h:AHeap):AV->Option (List AV)
 | .str s=>some (s.map fun b=>.int .u8 (.ofNat b.toNat))
 |x=>km h x
def bM(xs:List AV)(i:Nat)(new:List AV):List AV:=xs.take i++new++xs.drop (i+new.length)
def small(n b:Nat):Bool:=Nat.ble n (2^40)&&Nat.ble (n*b) (2^40)
def ic(sz:Nat)(h:AHeap)(xs:List AV):Option (AV×AHeap):=some (.slice h.n 0 0 xs.length none,h.push (.row sz true 0 xs))
def gT (sz b:Nat)(h:AHeap)(s:AV)(new:List AV):Option (AV×AHeap):=
 match new with
 |[]=>match s with
  | .nils | .ps .. | .ls .. | .slice ..=>some (s,h)
  |_=>none
 | _::_=>
  match dA sz new with
  |false=>none
  | true=>
   match s with
   | .nils=>match small new.length b with|true=>ic sz h new|false=>none
   | .ps xs true=>match small (xs.length+new.length) b&&dA sz xs with|true=>ic sz h (xs++new)|false=>none
   | .slice id ep off len cap=>
    match h.get id with
    | some (.row sz' op ep' xs)=>
     match Nat.beq ep ep'&&Nat.beq sz sz'&&small (len+new.length) b with
     |false=>none
     | true=>
      match cap with
      | some c=>match Nat.ble (len+new.length) c with
       |true=>match Nat.ble (off+len+new.length) xs.length with
        |true=>some (.slice id ep off (len+new.length) cap,h.put id (.row sz' op ep' (bM xs (off+len) new)))
        |false=>none
       |false=>ic sz h ((xs.drop off).take len++new)
      | none=>match Nat.ble (off+len+new.length) xs.length with
       |true=>some (.slice id ep off (len+new.length) none,h.put id (.row sz' op ep' (bM xs (off+len) new)))
       |false=>match off,op with
        |0,true=>some (.slice id (ep+1) 0 (len+new.length) none,h.put id (.row sz' true (ep+1) (xs.take len++new)))
        |_,_=>none
    |_=>none
   |_=>none
def L3(sz b:Nat)(z:AV)(h:AHeap)(s:AV)(k:Nat):Option (AV×AHeap):=
 match s with
 | .slice id ep off len (some c)=>match h.get id with
  |some (.row sz' _ ep' xs)=>match Nat.beq ep ep'&&Nat.beq sz sz'&&small (len+k) b&&small k b&&Nat.ble 1 k&&Nat.blt c (len+k)&&dA sz [z]with
   |true=>ic sz h ((xs.drop off).take len++List.replicate k z)
   |false=>none
  |_=>none
 | .nils=>match small k b&&Nat.ble 1 k&&Nat.ble 1 sz&&dA sz [z]with
  |true=>ic sz h (List.replicate k z)
  |false=>none
 |_=>none
def C6(sz b:Nat)(z:AV)(h:AHeap):Option AV->Option AV->Option (AV×AHeap)
 |some s,some (.int .i64 (.ofNat k))=>L3 sz b z h s k
 |_,_=>none
def gy(sz b:Nat)(h:AHeap)(s src:AV):Option (AV×AHeap):=
 match kF h src with
 |some new=>gT sz b h s new
 |none=>none
def dc(sz b:Nat)(h:AHeap):Option AV->Option AV->Option (AV×AHeap)
 |some s,some x=>gy sz b h s x
 |_,_=>none
def NU(s:Nat)(h:AHeap)(dst:AV)(ys:List AV):Option (AV×AHeap):=
 match dst with
 | .slice id ep off len _=>
  match h.get id with
  |some (.row sz op ep' xs)=>
   match Nat.beq ep ep'&&Nat.beq s sz&&dA sz (ys.take len)with
   |true=>some (.int .i64 (.ofNat (min ys.length len)),h.put id (.row sz op ep' (bM xs off (ys.take len))))
   |false=>none
  |_=>none
 |_=>none
def vW(s:Nat)(h:AHeap):Option AV->Option AV->Option (AV×AHeap)
 |some d,some x=>match kF h x with
  |some ys=>NU s h d ys
  |none=>none
 |_,_=>none
def wj(s:Nat)(z:AV)(h:AHeap)(x:Option AV):Option (AV×AHeap):=
 match x with
 | some (.slice id ep off len _)=>
  match h.get id with
  |some (.row sz op ep' xs)=>
   match Nat.beq ep ep'&&Nat.beq s sz&&dA sz [z]with
   |true=>some (gj,h.put id (.row sz op ep' (bM xs off (List.replicate len z))))
   |false=>none
  |_=>none
 |_=>none
def pj(sz b:Nat)(z:AV)(h:AHeap)(l c:Option AV):Option (AV×AHeap):=
 match l,c with
 |some (.int _ (.ofNat l)),some (.int _ (.ofNat c))=>
  match Nat.ble l c&&small c b with
  |true=>some (.slice h.n 0 0 l (some c),h.push (.row sz false 0 (List.replicate c z)))
  |false=>none
 |_,_=>none
def C3(a b:Int):Int:=match aB a b with|true=>b|false=>a
def OU(a b:Int):Int:=match aB b a with|true=>b|false=>a
def Oq(isMax:Bool)(k:IntKind):Int->List AV->Option AV
 |a,[]=>some (.int k a)
 |a,.int _ b::r=>Oq isMax k (match isMax with|true=>C3 a b|false=>OU a b) r
 |_,_=>none
def UE(isMax:Bool):List AV->Option AV
 | .int k a::r=>Oq isMax k a r
 |_=>none
abbrev eB:=Nat->Option AV
structure ROpd where
 run:Fr->Option AV
structure ROp where
 run:Fr->AHeap->Option ARes
def cj(G:eB):Operand->ROpd
 | .tmp t=>⟨fun A=>A.get t⟩
 | .const v=>⟨fun _=>ofValue v⟩
 | .global g=>⟨fun _=>match G g with|some x=>some (.pptr [x] 0 0)|none=>none⟩
 | .func f=>⟨fun _=>some (.func (.func f) [] [])⟩
structure ROpds where
 run:Fr->Option (List AV)
def Nq(A:Fr)(r:ROpds):Option AV->Option (List AV)
 |some v=>match r.run A with|some vs=>some (v::vs)|none=>none
 |none=>none
def vH(G:eB):List Operand->ROpds
 |[]=>⟨fun _=>some []⟩
 |x::r=>⟨fun A=>Nq A (vH G r) ((cj G x).run A)⟩
def qt(G:eB)(x:Option Operand)(A:Fr)(k:Option AV->Option AV):Option AV:=
 match x with
 |none=>k none
 |some x=>match(cj G x).run A with|some v=>k (some v)|none=>none
def dB:ROp:=⟨fun _ _=>none⟩
def bc(h:AHeap):Option AV->Option ARes
 |some v=>some (.val v h)
 |none=>none
def fq:Option (AV×AHeap)->Option ARes
 |some (v,h)=>some (.val v h)
 |none=>none
def vD:Option AHeap->Option ARes
 |some h=>some (.val gj h)
 |none=>none
def RX(h:AHeap):Option AV->Option (AV×AHeap)
 | some (.ptr id 0 0 0)=>
  match h.get id with
  |some (.siter s pos)=>
   match Nat.blt pos s.length with
   |true=>some (.tuple [.bool true,.int .i64 (.ofNat pos),.int .i32 (Utf8.decode ⟨s.toArray⟩ pos).1],h.put id (.siter s (pos+(Utf8.decode ⟨s.toArray⟩ pos).2)))
   |false=>some (.tuple [.bool false],h)
  |_=>none
 |_=>none
def vF(h:AHeap):Option AV->Option (AV×AHeap)
 |some .nilm=>some (.ptr h.n 0 0 0,h.push (.miter .nilm 0 []))
 |some (.map id)=>match h.get id with
  |some (.map _ clock)=>some (.ptr h.n 0 0 0,h.push (.miter (.map id) clock []))
  |_=>none
 |_=>none
def kg(b:Nat):List AEnt->Option AEnt
 |[]=>none
 |e::r=>match Nat.beq e.born b with|true=>some e|false=>kg b r
def xK:List Nat->Option Nat
 |[]=>none
 |x::r=>match r with|[]=>some x|_::_=>xK r
def Bw(es:List AEnt):Option Nat->Option AEnt
 |some b=>kg b es
 |none=>none
def HR:Option AEnt->Option AV
 |some e=>some (.tuple [e.key,e.val])
 |none=>none
def ES(h:AHeap):Option AV->Option AV
 | some (.ptr id 0 0 0)=>match h.get id with
  | some (.miter (.map m) clock seen)=>match h.get m with
   |some (.map es clock')=>match Nat.beq clock clock' with
    |true=>HR (Bw es (xK seen))
    |false=>none
   |_=>none
  |_=>none
 |_=>none
def zT(h:AHeap):Option AV->Option AV
 |some (.ptr id 0 0 0)=>match h.get id with
  |some (.miter .nilm _ _)=>some (.tuple [.bool false])
  |_=>none
 |_=>none
def Dr(args:List AV):Option AV->Option ARes
 |some (.func (.func f) first captured)=>some (.call f (first++args++captured))
 |_=>none
def LF(a b:ROpd)(A:Fr):Option AV->Option AV
 |some (.bool true)=>a.run A
 |some (.bool false)=>b.run A
 |_=>none
def YH:Option AV->Option AV
 |some (.ptr a b c d)=>some (.ptr a b c d)
 |some (.pptr a b c)=>some (.pptr a b c)
 |some (.func (.func f) a b)=>some (.func (.func f) a b)
 |_=>none
def sZ(h:AHeap):Option AV->Option ARes
 |some z=>match z.cells with
  |[]=>none
  |_::_=>match fZ z with|true=>some (.val (.ptr h.n 0 0 0) (h.push (.row z.cells.length false 0 [z])))|false=>none
 |none=>none
def J8(ag:Bool)(n off:Nat):Option AV->Option AV
 |some (.agg cs)=>ux ag n cs off
 |_=>none
def ext(i:Nat):Option AV->Option AV
 |some (.tuple vs)=>jo vs i
 |_=>none
def TI(f:AV->AV->Option AV):Option AV->Option AV->Option AV
 |some x,some y=>f x y
 |_,_=>none
def one(f:AV->Option AV):Option AV->Option AV
 |some x=>f x
 |none=>none
section
variable(P:Program)(G:eB)
def B9(t:TypeId)(parts:List ((Nat×Nat)×Operand)):ROp:=
 match ia P t with
 |some z=>match fZ z with
  |true=>⟨fun A h=>bc h (Tb (AC z.cells (parts.map fun p=>(p.1,(cj G p.2).run A))))⟩
  |false=>dB
 |none=>dB
def m0:List Field->Option (List (Nat×Nat))
 |[]=>some []
 |f::r=>match cP P f.type,m0 r with
  |some s,some l=>some ((f.offset,s)::l)
  |_,_=>none
def pW(pl:List (Nat×Nat)):List (Nat×Operand)->Option (List ((Nat×Nat)×Operand))
 |[]=>some []
 |(i,x)::r=>match jo pl i,pW pl r with
  |some p,some l=>some ((p,x)::l)
  |_,_=>none
def wz(s d:TypeId)(x:Operand):ROp:=
 match P.underlying s,P.underlying d with
 |some _,some (.int k)=>⟨fun A h=>bc h (E8 k ((cj G x).run A))⟩
 |some (.slice e),some .string=>match P.underlying e with
  |some (.int .u8)=>⟨fun A h=>bc h (pt h ((cj G x).run A))⟩
  |_=>dB
 |some .string,some .string=>⟨fun A h=>bc h (E7 ((cj G x).run A))⟩
 |some .string,some (.slice e)=>match P.underlying e with
  |some (.int .u8)=>⟨fun A h=>bc h (kp ((cj G x).run A))⟩
  |_=>dB
 |_,_=>dB
def iK(b:Builtin)(ts:Array TypeId)(args:List Operand):ROp:=
 match b,args with
 | .len,[x]=>match(ts[0]?).bind P.underlying with
  |some .string=>⟨fun A h=>bc h (JG ((cj G x).run A))⟩
  |some (.slice _)=>⟨fun A h=>bc h (Rx ((cj G x).run A))⟩
  |some (.map _ _)=>⟨fun A h=>bc h (JH h ((cj G x).run A))⟩
  |_=>dB
 | .cap,[x]=>match(ts[0]?).bind P.underlying with
  |some (.slice _)=>⟨fun A h=>bc h (YP ((cj G x).run A))⟩
  |_=>dB
 | .append,[s,x]=>match(ts[0]?).bind (eM P),(ts[1]?).bind P.underlying with
  | some e,some tx=>match tx,P.info? e with
   | .int .i64,some i=>match i.size,ia P e with
    |sz+1,some z=>match Nat.beq z.cells.length (sz+1)with
     |true=>⟨fun A h=>fq (C6 (sz+1) i.bytes z h ((cj G s).run A) ((cj G x).run A))⟩
     |false=>dB
    |_,_=>dB
   | .slice _,some i| .string,some i=>match i.size,ia P e with
    |sz+1,some z=>match Nat.beq z.cells.length (sz+1)with
     |true=>⟨fun A h=>fq (dc (sz+1) i.bytes h ((cj G s).run A) ((cj G x).run A))⟩
     |false=>dB
    |_,_=>dB
   |_,_=>dB
  |_,_=>dB
 | .copy,[d,s]=>match(ts[0]?).bind (eM P)with
  |some e=>match cP P e with
   |some (n+1)=>⟨fun A h=>fq (vW (n+1) h ((cj G d).run A) ((cj G s).run A))⟩
   |_=>dB
  |none=>dB
 | .clear,[x]=>match(ts[0]?).bind (eM P)with
  |some e=>match cP P e,ia P e with
   |some (n+1),some z=>⟨fun A h=>fq (wj (n+1) z h ((cj G x).run A))⟩
   |_,_=>dB
  |none=>dB
 | .min,args=>⟨fun A h=>match(vH G args).run A with|some l=>bc h (UE false l)|none=>none⟩
 | .max,args=>⟨fun A h=>match(vH G args).run A with|some l=>bc h (UE true l)|none=>none⟩
 |_,_=>dB
def eT(o:Op):ROp:=
 match o with
 | .move x| .assign x=>⟨fun A h=>bc h ((cj G x).run A)⟩
 | .pick c a b=>⟨fun A h=>bc h (LF (cj G a) (cj G b) A ((cj G c).run A))⟩
 | .alloc e=>match ia P e,cP P e with
  |some z,some s=>match Nat.beq z.cells.length s with|true=>⟨fun _ h=>sZ h (some z)⟩|false=>dB
  |_,_=>dB
 | .box _ x=>⟨fun A h=>sZ h ((cj G x).run A)⟩
 | .build t parts=>match P.underlying t with
  | some (.struct fs)=>match m0 P fs.toList with
   |some pl=>match pW pl parts.toList with
    |some l=>B9 P G t l
    |none=>dB
   |none=>dB
  |some (.array _ e)=>match cP P e with
   |some s=>B9 P G t (parts.toList.map fun p=>((p.1*s,s),p.2))
   |none=>dB
  |_=>dB
 | .buildSlice t n parts=>match eM P t with
  | some e=>match cP P e,ia P e with
   |some (s+1),some z=>match Nat.beq z.cells.length (s+1)&&Nat.ble (n*(s+1)) (2^24)&&fZ z with
    |true=>⟨fun A h=>bc h (Xt (zb (s+1) (List.replicate n z) (parts.toList.map fun p=>(p.1,(cj G p.2).run A))))⟩
    |false=>dB
   |_,_=>dB
  |none=>dB
 | .load t a=>match cH P t,cP P t with
  |some ag,some n=>⟨fun A h=>bc h (Ay ag n h ((cj G a).run A))⟩
  |_,_=>dB
 | .store t a x=>match cP P t with
  |some n=>⟨fun A h=>vD (sC n h ((cj G a).run A) ((cj G x).run A))⟩
  |none=>dB
 | .nilCheck x=>⟨fun A h=>bc h (YH ((cj G x).run A))⟩
 | .binOp op t x y _=>⟨fun A h=>bc h (TI (qX op (P.underlying t) (cH P t) (cP P t) (dH P 10 t 0)) ((cj G x).run A) ((cj G y).run A))⟩
 | .unOp op _ x=>⟨fun A h=>bc h (one (unR op) ((cj G x).run A))⟩
 | .convert s d x=>wz P G s d x
 | .makeInterface t x=>match P.underlying t with
  |some (.interface _)|none=>dB
  |some _=>⟨fun A h=>bc h (one (fun v=>some (.iface t v)) ((cj G x).run A))⟩
 | .makeFunc fn first captured=>⟨fun A h=>match(vH G first.toList).run A,(vH G captured.toList).run A with
  |some a,some b=>some (.val (.func fn a b) h)
  |_,_=>none⟩
 | .makeMap t none=>match P.underlying t with
  |some (.map _ _)=>⟨fun _ h=>some (.val (.map h.n) (h.push (.map [] 0)))⟩
  |_=>dB
 | .makeMap t (some r)=>match P.underlying t with
  |some (.map _ _)=>⟨fun A h=>match(cj G r).run A with|some (.int ..)=>some (.val (.map h.n) (h.push (.map [] 0)))|_=>none⟩
  |_=>dB
 | .makeSlice t l c=>match eM P t with
  | some e=>match P.info? e,ia P e with
   |some i,some z=>match Nat.beq z.cells.length i.size&&Nat.blt 0 i.size&&fZ z with
    |true=>⟨fun A h=>fq (pj i.size i.bytes z h ((cj G l).run A) ((cj G c).run A))⟩
    |false=>dB
   |_,_=>dB
  |none=>dB
 | .slice t x lo hi mx=>match P.underlying t with
  |some .string=>match mx with
   |none=>⟨fun A h=>bc h (qt G lo A fun lo=>qt G hi A fun hi=>lp ((cj G x).run A) lo hi)⟩
   |some _=>dB
  |some (.slice e)=>match cP P e with
   |some (s+1)=>⟨fun A h=>bc h (qt G lo A fun lo=>qt G hi A fun hi=>qt G mx A fun mx=>dq (s+1) h ((cj G x).run A) lo hi mx)⟩
   |_=>dB
  |_=>dB
 | .fieldAddr s x f=>match fieldsOf P s with
  | some fs=>match fs[f]? with
   |some f=>match cP P f.type with
    |some (_+1)=>⟨fun A h=>bc h (offset f.offset ((cj G x).run A))⟩
    |_=>dB
   |none=>dB
  |none=>dB
 | .field s x f=>match fieldsOf P s with
  | some fs=>match fs[f]? with
   |some f=>match cH P f.type,cP P f.type with
    |some ag,some n=>⟨fun A h=>bc h (J8 ag n f.offset ((cj G x).run A))⟩
    |_,_=>dB
   |none=>dB
  |none=>dB
 | .indexAddr t x i=>match P.underlying t with
  |some (.array n e)=>match cP P e with
   |some (s+1)=>⟨fun A h=>bc h (og n (s+1) ((cj G x).run A) ((cj G i).run A))⟩
   |_=>dB
  |some (.slice e)=>match cP P e with
   |some (s+1)=>⟨fun A h=>bc h (lF (s+1) h ((cj G x).run A) ((cj G i).run A))⟩
   |_=>dB
  |_=>dB
 | .index t x i=>match P.underlying t with
  |some (.array n e)=>match cH P e,cP P e with
   |some ag,some s=>⟨fun A h=>bc h (Iu n ag s ((cj G x).run A) ((cj G i).run A))⟩
   |_,_=>dB
  |some .string=>⟨fun A h=>bc h (Is ((cj G x).run A) ((cj G i).run A))⟩
  |_=>dB
 | .lookup t m k ok=>match P.underlying t with
  |some (.map kt e)=>match cH P kt,cP P kt,dH P 10 kt 0 with
   |some ag,some sz,some lv=>⟨fun A h=>bc h (ue ag sz lv (ia P e) ok h ((cj G m).run A) ((cj G k).run A))⟩
   |_,_,_=>dB
  |_=>dB
 | .mapUpdate t m k x| .insert t m k x=>match P.underlying t with
  |some (.map kt _)=>match cH P kt,cP P kt,dH P 10 kt 0 with
   |some ag,some sz,some lv=>⟨fun A h=>vD (rx ag sz lv h ((cj G m).run A) ((cj G k).run A) ((cj G x).run A))⟩
   |_,_,_=>dB
  |_=>dB
 | .mapEntry t m k=>match P.underlying t with
  |some (.map kt e)=>match cH P kt,cP P kt,dH P 10 kt 0 with
   |some ag,some sz,some lv=>⟨fun A h=>fq (od ag sz lv (ia P e) h ((cj G m).run A) ((cj G k).run A))⟩
   |_,_,_=>dB
  |_=>dB
 | .entryStore _ m s x=>⟨fun A h=>vD (j5 h ((cj G m).run A) ((cj G s).run A) ((cj G x).run A))⟩
 | .range t x=>match P.underlying t with
  |some .string=>⟨fun A h=>match(cj G x).run A with|some (.str s)=>some (.val (.ptr h.n 0 0 0) (h.push (.siter s 0)))|_=>none⟩
  |some (.map _ _)=>⟨fun A h=>fq (vF h ((cj G x).run A))⟩
  |_=>dB
 | .next it true=>⟨fun A h=>fq (RX h ((cj G it).run A))⟩
 | .next it false=>⟨fun A h=>bc h (zT h ((cj G it).run A))⟩
 | .entry it=>⟨fun A h=>bc h (ES h ((cj G it).run A))⟩
 | .extract t i=>⟨fun A h=>bc h (ext i ((cj G t).run A))⟩
 | .call {callee:=.value f,args, ..}=>⟨fun A _=>match(vH G args.toList).run A with|some l=>Dr l ((cj G f).run A)|none=>none⟩
 | .call {callee:=.builtin b,args,argTypes}=>iK P G b argTypes args.toList
 |_=>dB
end
end
noncomputable section
inductive AExit where
 |normal|exit (id:Nat)|ret
 deriving Inhabited,DecidableEq
structure St where
 tmps:Fr
 heap:AHeap
 deriving Inhabited
def ie(A:Fr)(dst:Option Tmp)(v:AV):Option Fr:=
 match dst with
 |some d=>A.put d v
 |none=>some A
def Nat.mx(a b:Nat):Nat:=match Nat.ble a b with|true=>b|false=>a
mutual
def AV.top:AV->Nat
 | .ptr id ..=>id+1
 | .slice id ..=>id+1
 | .sl0 id ..=>id+1
 | .map id=>id+1
 | .func _ a b=>Nat.mx (aq a) (aq b)
 | .iface _ v=>AV.top v
 | .agg cs=>aq cs
 | .tuple vs=>aq vs
 | .ps xs _=>aq xs
 | .ls _=>0
 | .pptr xs _ _=>aq xs
 |_=>0
def aq:List AV->Nat
 |[]=>0
 |x::r=>Nat.mx (AV.top x) (aq r)
end
def fx:List AEnt->Nat
 |[]=>0
 |e::r=>Nat.mx (Nat.mx e.key.top e.val.top) (fx r)
def AObj.top:AObj->Nat
 | .row _ _ _ xs=>aq xs
 | .map es _=>fx es
 | .miter m _ _=>m.top
 |_=>0
def fw(h:AHeap)(n:Nat):Nat->Bool
 |0=>true
 |k+1=>match h.get k with
  |some o=>match Nat.ble o.top n with|true=>fw h n k|false=>false
  |none=>fw h n k
def s9(f:AV->Option AV):List AV->Option (List AV)
 |[]=>some []
 |x::r=>match f x with
  |some y=>match s9 f r with|some ys=>some (y::ys)|none=>none
  |none=>none
def uA(n:Nat)(v:AV):Option AV:=match Nat.ble v.top n with|true=>some v|false=>none
def frz(h:AHeap):Nat->Nat->AV->Option AV
 |0,_,_=>none
 | k+1,n,v=>
  match v with
  | .slice id ep off len cap=>
   match Nat.blt id n with
   |true=>some v
   | false=>match h.get id with
    | some (.row _ _ ep' xs)=>
     match Nat.beq ep ep' with
     |true=>match s9 (frz h k n) ((xs.drop off).take len)with
      |some ys=>some (.ps ys (oa cap (some len)))
      |none=>none
     |false=>none
    |_=>none
  | .agg cs=>match s9 (frz h k n) cs with|some cs=>some (.agg cs)|none=>none
  | .tuple cs=>match s9 (frz h k n) cs with|some cs=>some (.tuple cs)|none=>none
  | .func fn a b=>match s9 (frz h k n) a,s9 (frz h k n) b with|some a,some b=>some (.func fn a b)|_,_=>none
  | .iface t v=>match frz h k n v with|some v=>some (.iface t v)|none=>none
  |v=>uA n v
def jT:Nat:=24
def Er(v:AV)(h:AHeap)(n:Nat):Option AV->AV×AHeap
 |some v'=>(v',h.cut n)
 |none=>(v,h)
def MU(v:AV)(h:AHeap)(n:Nat)(sz:Nat)(op:Bool)(len:Nat)(cap:Option Nat):Option (List AV)->AV×AHeap
 |some ys=>(.slice n 0 0 len cap,(h.cut n).push (.row sz op 0 ys))
 |none=>(v,h)
def G1(n:Nat)(v:AV)(h:AHeap):AV×AHeap:=
 match v with
 | .slice id ep 0 len cap=>
  match h.get id with
  |some (.row sz op ep' xs)=>
   match Nat.ble n id&&Nat.beq ep ep'&&Nat.beq len xs.length with
   |true=>MU v h n sz op len cap (s9 (frz (h.put id .dead) jT n) xs)
   |false=>(v,h)
  |_=>(v,h)
 |_=>Er v h n (frz h jT n v)
def fR(pol:Nat)(n:Nat)(v:AV)(h:AHeap):AV×AHeap:=
 match Nat.beq h.n n with
 |true=>(v,h)
 |false=>match pol with
  |0=>match fw h n n with|true=>Er v h n (frz h jT n v)|false=>(v,h)
  |1=>match fw h n n with|true=>G1 n v h|false=>(v,h)
  |_=>(v,h)
abbrev aaL:=FuncId->List AV->AHeap->Option (AV×AHeap)
structure Cfg where
 P:Program
 G:eB
 hook:aaL:=fun _ _ _=>none
 pol:FuncId->Nat:=fun _=>0
 rounds:Nat:=4096
abbrev cJ:=FuncId->List AV->AHeap->Option (AV×AHeap)
structure RCode where
 run:cJ->St->Option (AExit×St)
def behind(call:cJ)(h:AHeap):Option ARes->Option (AV×AHeap)
 |some (.val v h')=>some (v,h')
 |some (.call f args)=>call f args h
 |none=>none
def dT(ops:Array Oper)(o:Oper):Option (Option Tmp×Bool):=
 match o.guard with
 |none=>none
 |some (j,want)=>some ((ops[j]?).bind (·.dst),want)
def ez(A:Fr):Option (Option Tmp×Bool)->Option Bool
 |none=>some true
 | some (some d,want)=>match A.get d with
  |some (.bool b)=>match b,want with
   |true,true|false,false=>some true
   |_,_=>some false
  |some (.tuple [])=>some false
  |_=>none
 |some (none,_)=>some false
structure ROper where
 g:Option (Option Tmp×Bool)
 op:ROp
 dst:Option Tmp
def bI(P:Program)(G:eB)(ops:Array Oper)(o:Oper):ROper:=⟨dT ops o,eT P G o.op,o.dst⟩
def fin(A:Fr)(dst:Option Tmp)(k:St->Option St):Option (AV×AHeap)->Option St
 |some (v,h)=>match ie A dst v with|some A'=>k ⟨A',h⟩|none=>none
 |none=>none
def zV(call:cJ)(r:ROper)(s:St)(k:St->Option St):Option St:=
 match ez s.tmps r.g with
 |some true=>fin s.tmps r.dst k (behind call s.heap (r.op.run s.tmps s.heap))
 |some false=>fin s.tmps r.dst k (some (gj,s.heap))
 |none=>none
structure ROps where
 run:cJ->St->Option St
def zc(P:Program)(G:eB)(ops:Array Oper):List Oper->ROps
 |[]=>⟨fun _ s=>some s⟩
 |o::r=>⟨fun call s=>zV call (bI P G ops o) s ((zc P G ops r).run call)⟩
structure Ids where
 all:Bool
 l:List Nat
 lo:Nat
 hi:Nat
def jU(id:Nat):List Nat->Bool
 |[]=>false
 |x::r=>Nat.beq x id||jU id r
def Ids.has(X:Ids)(id:Nat):Bool:=(X.all&&Nat.blt id X.lo)||jU id X.l||(Nat.ble X.lo id&&Nat.blt id X.hi)
def IB(X:Ids):List Nat->Bool
 |[]=>false
 |x::r=>X.has x||IB X r
def Ids.meets(X Y:Ids):Bool:=
 IB X Y.l||IB Y X.l||
 (X.all&&Y.all&&Nat.blt 0 X.lo&&Nat.blt 0 Y.lo)||
 (X.all&&Nat.blt Y.lo Y.hi&&Nat.blt Y.lo X.lo)||(Y.all&&Nat.blt X.lo X.hi&&Nat.blt X.lo Y.lo)||
 (Nat.blt X.lo X.hi&&Nat.blt Y.lo Y.hi&&Nat.blt X.lo Y.hi&&Nat.blt Y.lo X.hi)
structure Rec where
 vis:Ids
 wr:Ids
def c9:Op->Nat
 | .move _| .assign _| .pick .. | .build .. | .buildSlice .. | .fieldAddr .. | .field .. | .extract .. | .makeFunc .. | .makeInterface .. | .binOp .. | .unOp .. | .nilCheck _| .index ..
 | .load .. | .lookup .. | .indexAddr .. | .slice .. | .convert ..=>0
 | .call {callee:=.builtin .len, ..}| .call {callee:=.builtin .cap, ..}=>0
 | .call {callee:=.value _, ..}=>2
 |_=>1
def vo:List Operand->List Tmp
 |[]=>[]
 | .tmp t::r=>t::vo r
 |_::r=>vo r
def de:Op->List Tmp
 | .move _| .assign _| .pick .. | .build .. | .buildSlice .. | .fieldAddr .. | .field .. | .extract .. | .makeFunc .. | .makeInterface .. | .binOp .. | .unOp .. | .nilCheck _| .index .. | .alloc _| .box ..=>[]
 | .call {callee:=.builtin .len,args, ..}=>(vo args.toList).map (· +100000)
 | .store _ a _=>vo [a]
 | .mapUpdate _ m _ _| .insert _ m _ _=>vo [m]
 |op=>vo op.operands.toList
structure DOper where
 r:ROper
 look:List Tmp
 foot:List Tmp
 kind:Nat
 mask:Nat
def bN(F:Fr):List Tmp->Tr AV->Tr AV
 |[],t=>t
 |x::r,t=>bN F r (match F.get x,Nat.blt x 60000 with|some v,true=>t.set 16 x v|_,_=>t)
def cW(F:Fr):List Tmp->List Nat
 |[]=>[]
 | x::r=>match Nat.ble 100000 x with
  |true=>match F.get (x-100000)with
   |some (.map id)=>id::cW F r
   |_=>cW F r
  |false=>match F.get x with
   |some (.ptr id ..)|some (.slice id ..)|some (.map id)|some (.sl0 id ..)=>id::cW F r
   |_=>cW F r
def bF(h:AHeap):List Nat->Tr AObj->Tr AObj
 |[],t=>t
 |id::r,t=>bF h r (match h.get id with|some o=>t.set 20 id o|none=>t)
def ip(F:Fr)(n:Nat):List Tmp->Bool
 |[]=>true
 |x::r=>(match F.get x with|some v=>Nat.ble v.top n|none=>true)&&ip F n r
def pq(h:AHeap)(n:Nat):List Nat->Bool
 |[]=>true
 |id::r=>(match h.get id with|some o=>Nat.ble o.top n|none=>true)&&pq h n r
def laid(hv h':AHeap):List Nat->AHeap->Option AHeap
 |[],H=>some H
 |id::r,H=>match hv.get id,h'.get id with
  |some _,some o=>laid hv h' r (H.put id o)
  |none,_=>laid hv h' r H
  |some _,none=>none
def Ep(h h':AHeap)(H:AHeap):Option AHeap:=
 match Nat.beq h'.n h.n with
 |true=>some H
 |false=>match Nat.beq h'.n (h.n+1),h'.get h.n with
  |true,some o=>some (H.push o)
  |_,_=>none
mutual
def AV.same:AV->AV->Bool
 | .bool a,.bool b=>(a&&b)||(!a&& !b)
 | .int j a,.int k b=>kL j k&&ay a b
 | .str a,.str b=>dM a b
 | .nilp,.nilp | .nils,.nils | .nilm,.nilm | .nilf,.nilf | .nili,.nili=>true
 | .ptr a b c d,.ptr a' b' c' d'=>Nat.beq a a'&&Nat.beq b b'&&Nat.beq c c'&&Nat.beq d d'
 | .map a,.map b=>Nat.beq a b
 | .slice a b c d e,.slice a' b' c' d' e'=>Nat.beq a a'&&Nat.beq b b'&&Nat.beq c c'&&Nat.beq d d'&&oa e e'
 | .ps xs a,.ps ys b=>gm xs ys&&((a&&b)||(!a&& !b))
 | .ls xs,.ls ys=>gm xs ys
 | .pptr xs a b,.pptr ys c d=>gm xs ys&&Nat.beq a c&&Nat.beq b d
 | .iface t v,.iface u w=>Nat.beq t u&&AV.same v w
 | .agg a,.agg b=>gm a b
 | .tuple a,.tuple b=>gm a b
 | .func (.func f) a b,.func (.func g) c d=>Nat.beq f g&&gm a c&&gm b d
 |_,_=>false
def gm:List AV->List AV->Bool
 |[],[]=>true
 |a::as,b::bs=>AV.same a b&&gm as bs
 |_,_=>false
end
def oD:List AEnt->List AEnt->Bool
 |[],[]=>true
 |a::as,b::bs=>AV.same a.key b.key&&AV.same a.val b.val&&Nat.beq a.born b.born&&oD as bs
 |_,_=>false
def AObj.same:AObj->AObj->Bool
 | .dead,.dead=>true
 | .row a b c xs,.row a' b' c' xs'=>Nat.beq a a'&&((b&&b')||(!b&& !b'))&&Nat.beq c c'&&gm xs xs'
 | .map es c,.map es' c'=>Nat.beq c c'&&oD es es'
 |_,_=>false
def vB(h h':AHeap):Nat->Bool
 |0=>true
 | k+1=>match h'.get k with
  |none=>match h.get k with|none=>vB h h' k|some _=>false
  |some o'=>match h.get k with
   |some o=>match AObj.same o o' with|true=>vB h h' k|false=>false
   |none=>false
abbrev CX:=Option (AV×AHeap×Rec)
def pO(F:Fr)(h:AHeap)(d:DOper)(ids:List Nat):CX:=
 match d.r.op.run ⟨F.n,bN F d.look .nil⟩ ⟨1000000,bF h ids .nil⟩with
 |some (.val v _)=>some (v,h,⟨⟨false,ids,0,0⟩,⟨false,[],0,0⟩⟩)
 |_=>none
def lY(h hv:AHeap)(ids:List Nat):Option ARes->CX
 | some (.val v h')=>match laid hv h' ids h with
  |some H=>match Ep h h' H with
   |some H=>some (v,H,⟨⟨false,ids,0,0⟩,⟨false,ids,h.n,h'.n⟩⟩)
   |none=>none
  |none=>none
 |_=>none
def nb(F:Fr)(h:AHeap)(d:DOper)(ids:List Nat)(hv:AHeap):CX:=lY h hv ids (d.r.op.run ⟨F.n,bN F d.look .nil⟩ hv)
def pp(F:Fr)(h:AHeap)(d:DOper)(ids:List Nat):CX:=
 match ip F h.n d.look&&pq h h.n ids with
 |true=>nb F h d ids ⟨h.n,bF h ids .nil⟩
 |false=>none
def nO(h h':AHeap):Nat->Bool
 |0=>true
 |k+1=>match h'.get k with
  |none=>nO h h' k
  |some _=>match h.get k with|some _=>nO h h' k|none=>false
def uT(h h':AHeap)(v:AV)(b:Bool):CX:=some (v,h',⟨⟨true,[],h.n,h.n⟩,⟨b,[],h.n,h'.n⟩⟩)
def BQ(h:AHeap):Option (AV×AHeap)->CX
 | some (v,h')=>match Nat.ble h.n h'.n with
  |true=>match vB h h' h.n with
   |true=>uT h h' v false
   |false=>match nO h h' h.n with|true=>uT h h' v true|false=>none
  |false=>none
 |none=>none
def NJ(call:cJ)(F:Fr)(h:AHeap)(d:DOper):CX:=
 match ip F h.n d.look&&fw h h.n h.n with
 |true=>BQ h (behind call h (d.r.op.run ⟨F.n,bN F d.look .nil⟩ h))
 |false=>none
def E4(call:cJ)(F:Fr)(h:AHeap)(d:DOper):CX:=
 match ez ⟨F.n,bN F d.look .nil⟩ d.r.g with
 |some true=>match d.kind with
  |0=>pO F h d (cW F d.foot)
  |1=>pp F h d (cW F d.foot)
  |_=>NJ call F h d
 |some false=>some (gj,h,⟨⟨false,[],0,0⟩,⟨false,[],0,0⟩⟩)
 |none=>none
def lf(mask:Nat)(r:Rec):List Rec->Nat->Bool
 |[],_=>true
 |q::qs,k=>((!(q.wr.meets r.vis||r.wr.meets q.vis||q.wr.meets r.wr))||Nat.testBit mask (k-1))&&lf mask r qs (k-1)
structure RDraw where
 run:cJ->Fr->AHeap->List Rec->Nat->Option St
def SD(d:DOper)(F:Fr)(rs:List Rec)(k:Nat)(go:Fr->AHeap->List Rec->Nat->Option St):CX->Option St
 |some (v,h',r)=>match lf d.mask r rs k with
  |true=>match ie F d.r.dst v with|some F'=>go F' h' (r::rs) (k+1)|none=>none
  |false=>none
 |none=>none
def rJ:List DOper->RDraw
 |[]=>⟨fun _ F h _ _=>some ⟨F,h⟩⟩
 |d::r=>⟨fun call F h rs k=>SD d F rs k ((rJ r).run call) (E4 call F h d)⟩
def iw:List Edge->List Nat
 |[]=>[]
 |e::r=>match Region.binds .any e with|true=>e.on::iw r|false=>iw r
def eH(masks:List (Nat×Nat))(d:Nat):Nat:=
 match masks with
 |[]=>0
 |p::r=>match Nat.beq p.1 d with|true=>p.2|false=>eH r d
def s7(masks:List (Nat×Nat)):List Nat->Nat
 |[]=>0
 |d::r=>Nat.lor (Nat.lor (2^d) (eH masks d)) (s7 masks r)
def dS:List Oper->Nat->List (Nat×Nat)->List (Nat×Nat)
 |[],_,acc=>acc
 |o::r,i,acc=>dS r (i+1) ((i,s7 acc (iw o.after.toList))::acc)
def l8(i:Nat):List Nat->Bool
 |[]=>true
 |d::r=>Nat.blt d i&&l8 i r
def rp(masks:List (Nat×Nat))(deps:List Nat)(look:List Tmp)(j:Nat):List Oper->Nat->Bool
 |[],_=>true
 |o::r,i=>(match o.dst with
  |none=>true
  |some t=>!jU t look||Nat.beq i j||jU i deps||Nat.testBit (eH masks i) j)&&rp masks deps look j r (i+1)
def A7:List Oper->Bool
 |[]=>true
 |o::r=>(match o.dst with|some t=>(r.all fun q=>(match q.dst with|some u=>!Nat.beq t u|none=>true))|none=>true)&&A7 r
def mT(P:Program)(G:eB)(ops:Array Oper)(masks:List (Nat×Nat)):List Oper->Nat->Option (List DOper)
 |[],_=>some []
 | o::r,i=>
  match l8 i (iw o.after.toList)&&rp masks (iw o.after.toList) (o.looksAt ops) i ops.toList 0 with
  |true=>match mT P G ops masks r (i+1)with
   |some l=>some (⟨bI P G ops o,o.looksAt ops,de o.op,c9 o.op,eH masks i⟩::l)
   |none=>none
  |false=>none
def uQ:Option St->Option St
 |some s=>match Nat.ble s.heap.n 1000000 with|true=>some s|false=>none
 |none=>none
def E2(P:Program)(G:eB)(ops:Array Oper):ROps:=
 match A7 ops.toList&&Region.noSelect ops with
 |true=>match mT P G ops (dS ops.toList 0 []) ops.toList 0 with
  |some l=>⟨fun call s=>uQ ((rJ l).run call s.tmps s.heap [] 0)⟩
  |none=>⟨fun _ _=>none⟩
 |false=>⟨fun _ _=>none⟩
def Q8:Option St->Option (AExit×St)
 |some s=>some (.normal,s)
 |none=>none
def oc(k:St->Option (AExit×St)):Option (AExit×St)->Option (AExit×St)
 |some (.normal,s)=>k s
 |r=>r
def rounds(body:St->Option (AExit×St))(n:Nat):St->Option (AExit×St):=@Nat.rec (fun _=>St->Option (AExit×St)) (fun _=>none) (fun _ ih s=>oc ih (body s)) n
def inBlock(id:Nat):Option (AExit×St)->Option (AExit×St)
 |some (.exit id',s)=>match Nat.beq id' id with|true=>some (.normal,s)|false=>some (.exit id',s)
 |r=>r
def Lw(b:RCode)(call:cJ):Option (AExit×St)->Option (AExit×St)
 |some (.normal,s)=>b.run call s
 |r=>r
def SH(a b:RCode)(call:cJ)(s:St):Option AV->Option (AExit×St)
 |some (.bool true)=>a.run call s
 |some (.bool false)=>b.run call s
 |_=>none
def ej(P:Program)(G:eB)(n:Nat):Code->RCode
 | .skip | .label _=>⟨fun _ s=>some (.normal,s)⟩
 | .region _ ops draw=>match draw with
  |false=>⟨fun call s=>Q8 ((zc P G ops ops.toList).run call s)⟩
  |true=>⟨fun call s=>Q8 ((E2 P G ops).run call s)⟩
 | .seq a b=>⟨fun call s=>Lw (ej P G n b) call ((ej P G n a).run call s)⟩
 | .cond c a b=>⟨fun call s=>SH (ej P G n a) (ej P G n b) call s ((cj G c).run s.tmps)⟩
 | .block id b=>⟨fun call s=>inBlock id ((ej P G n b).run call s)⟩
 | .loop b=>⟨fun call s=>rounds ((ej P G n b).run call) n s⟩
 | .exit id=>⟨fun _ s=>some (.exit id,s)⟩
 | .scope b=>⟨fun call s=>(ej P G n b).run call s⟩
 | .ret=>⟨fun _ s=>some (.ret,s)⟩
 |_=>⟨fun _ _=>none⟩
structure RRes where
 run:Fr->AHeap->Option AV
def UU(P:Program):ResultVar->RRes
 | .tmp t=>⟨fun A _=>A.get t⟩
 | .cell a t=>match cH P t,cP P t with
  |some ag,some n=>⟨fun A h=>Ay ag n h (A.get a)⟩
  |_,_=>⟨fun _ _=>none⟩
def fV(P:Program):List ResultVar->Fr->AHeap->Option (List AV)
 |[],_,_=>some []
 |x::r,A,h=>match(UU P x).run A h with
  |some v=>match fV P r A h with|some vs=>some (v::vs)|none=>none
  |none=>none
def fW:Option (List AV)->Option AV
 |some [v]=>some v
 |some vs=>some (.tuple vs)
 |none=>none
def gS(n:Nat):List AV->Nat->Tr AV->Tr AV
 |[],_,t=>t
 |x::r,i,t=>gS n r (i+1) (t.set 16 i x)
structure RFunc where
 n:Nat
 body:RCode
 res:List ResultVar
def R7(C:Cfg)(f:FuncId):Option RFunc:=
 match C.P.funcs[f]? with
 |some fn=>match fn.body with
  |some c=>some ⟨fn.ntmps,ej C.P C.G C.rounds c,fn.results.toList⟩
  |none=>none
 |none=>none
def Eo(pol:Nat)(n:Nat)(h:AHeap):Option AV->Option (AV×AHeap)
 |some v=>some (fR pol n v h)
 |none=>none
def Ys(C:Cfg)(f:FuncId)(n:Nat)(res:List ResultVar):Option (AExit×St)->Option (AV×AHeap)
 |some (.exit _,_)|none=>none
 |some (_,s)=>Eo (C.pol f) n s.heap (fW (fV C.P res s.tmps s.heap))
def A4(C:Cfg)(call:cJ)(f:FuncId)(args:List AV)(h:AHeap):Option RFunc->Option (AV×AHeap)
 |some R=>match Nat.ble args.length R.n&&Nat.ble R.n 60000 with
  |true=>Ys C f h.n R.res (R.body.run call ⟨⟨R.n,gS R.n args 0 .nil⟩,h⟩)
  |false=>none
 |none=>none
def Eb(C:Cfg)(call:cJ)(f:FuncId)(args:List AV)(h:AHeap):Option (AV×AHeap)->Option (AV×AHeap)
 |some r=>some r
 |none=>A4 C call f args h (R7 C f)
def iF(C:Cfg)(k:Nat):cJ:=@Nat.rec (fun _=>cJ) (fun _ _ _=>none) (fun _ ih f args h=>Eb C ih f args h (C.hook f args h)) k
end
structure Place where
 blk:Nat
 ep:Nat
 sz:Nat
 n:Nat
 tot:Nat
abbrev Pl:=Nat->Option Place
abbrev dl:=Nat->Option (Array Value)
def cN:AV->Bool
 | .agg _| .tuple _=>false
 |_=>true
def Sc(x:AV):Prop:=∀y,y∈x.cells->cN y=true
inductive VRel(pl:Pl)(M:dl):AV->Value->Prop
 |bool (b:Bool):VRel pl M (.bool b) (.bool b)
 |int (k:IntKind) (n:Int):VRel pl M (.int k n) (.int k n)
 |str (s:List UInt8):VRel pl M (.str s) (.string ⟨⟨s⟩⟩)
 |nilp:VRel pl M .nilp (.pointer none)
 | ptr {id ep i off:Nat} {a:Addr} {p:Place} (hp:pl id=some p) (he:ep<=p.ep)
   (ha:ep=p.ep->a=⟨p.blk,i*p.sz+off,none⟩):VRel pl M (.ptr id ep i off) (.pointer (some a))
 | pptr {xs:List AV} {i off:Nat} {a:Addr} {sz:Nat} {c:Array Value} (hm:a.spot=none/\M a.block=some c/\a.off+xs.length*sz<=c.size/\0<sz)
   (hs:∀x,x∈xs->x.cells.length=sz/\Sc x) (hi:i<xs.length)
   (hc:∀i x j y,xs[i]?=some x->x.cells[j]?=some y->VRel pl M y (c.getD (a.off+i*sz+j) undef)):
   VRel pl M (.pptr xs i off) (.pointer (some ⟨a.block,a.off+i*sz+off,none⟩))
 |nils:VRel pl M .nils (.slice none 0 0)
 | slice {id ep off len cap':Nat} {cap:Option Nat} {a:Addr} {p:Place} (hp:pl id=some p) (he:ep<=p.ep) (hl:len<=cap')
   (hk:∀k,cap=some k->cap'=k)
   (ha:ep=p.ep->(cap'=0\/a=⟨p.blk,off*p.sz,none⟩)/\(off+cap')*p.sz<=p.tot/\off+len<=p.n/\(cap=none->p.n<=off+cap')/\(∀k,cap=some k->off+k<=p.n)):
   VRel pl M (.slice id ep off len cap) (.slice (some a) len cap')
 |sl0n {id ep:Nat} {cap:Option Nat} {x:Value} (h:VRel pl M (.ls []) x):VRel pl M (.sl0 id ep 0 cap) x
 |sl0s {id ep len:Nat} {cap:Option Nat} {x:Value} (h:VRel pl M (.slice id ep 0 len cap) x):VRel pl M (.sl0 id ep len cap) x
 | ps {xs:List AV} {tight:Bool} {a:Addr} {cap sz:Nat} {c:Array Value} (hl:xs.length<=cap) (ht:tight=true->cap=xs.length)
   (hm:xs≠[]->a.spot=none/\M a.block=some c/\a.off+xs.length*sz<=c.size/\0<sz)
   (hs:∀x,x∈xs->x.cells.length=sz/\Sc x)
   (hc:∀i x j y,xs[i]?=some x->x.cells[j]?=some y->VRel pl M y (c.getD (a.off+i*sz+j) undef)):
   VRel pl M (.ps xs tight) (.slice (some a) xs.length cap)
 |lsn:VRel pl M (.ls []) (.slice none 0 0)
 |lsp {xs:List AV} {x:Value} (h:VRel pl M (.ps xs false) x) (ht:aq xs=0):VRel pl M (.ls xs) x
 |nilm:VRel pl M .nilm (.map none)
 |map {id r:Nat} {p:Place} (hp:pl id=some p) (ha:p.ep=0->r=p.blk):VRel pl M (.map id) (.map (some r))
 | func {fn:Fn} {as bs:List AV} {vs ws:Array Value} (h1:as.length=vs.size) (h2:bs.length=ws.size)
   (h3:∀j y,as[j]?=some y->VRel pl M y (vs.getD j undef)) (h4:∀j y,bs[j]?=some y->VRel pl M y (ws.getD j undef)):VRel pl M (.func fn as bs) (.func fn vs ws)
 |nilf:VRel pl M .nilf .nilFunc
 |iface {t:TypeId} {v:AV} {x:Value} (h:VRel pl M v x):VRel pl M (.iface t v) (.iface t x)
 |nili:VRel pl M .nili .nilIface
 | agg {as:List AV} {vs:Array Value} (h1:as.length=vs.size) (h2:∀y,y∈as->cN y=true)
   (h3:∀j y,as[j]?=some y->VRel pl M y (vs.getD j undef)):VRel pl M (.agg as) (.agg vs)
 | tuple {as:List AV} {vs:Array Value} (h1:as.length=vs.size)
   (h3:∀j y,as[j]?=some y->VRel pl M y (vs.getD j undef)):VRel pl M (.tuple as) (.tuple vs)
theorem abe{a b:Nat}:Nat.mx a b=0↔a=0/\b=0:=by
 unfold Nat.mx;cases h:Nat.ble a b with
 |true=>have:=vf h;grind
 |false=>grind[Nat.ble_eq_true_of_le]
theorem kW:∀{xs:List AV},aq xs=0↔∀x,x∈xs->x.top=0
 |[]=>by simp[aq]
 |x::r=>by simp only[aq,abe,kW (xs:=r),dO,forall_eq_or_imp]
structure VRels(pl:Pl)(M:dl)(as:List AV)(vs:Array Value):Prop where
 len:as.length=vs.size
 at_:∀j y,as[j]?=some y->VRel pl M y (vs.getD j undef)
structure InMem(pl:Pl)(M:dl)(c:Array Value)(o sz:Nat)(xs:List AV):Prop where
 fit:o+xs.length*sz<=c.size
 elem:∀x,x∈xs->x.cells.length=sz/\Sc x
 cell:∀i x j y,xs[i]?=some x->x.cells[j]?=some y->VRel pl M y (c.getD (o+i*sz+j) undef)
def bb(pl:Pl)(M:dl)(p:Place):AObj->Option Obj->Prop
 | .dead,_=>True
 | .row sz op ep xs,some (.cells c _ fr)=>p.ep=ep/\p.sz=sz/\p.n=xs.length/\p.tot=c.size/\fr=(0,0)/\0<sz/\(op=false->c.size=xs.length*sz)/\InMem pl M c 0 sz xs
 | .map es clock,some (.map entries clock')=>p.ep=0/\clock'=clock/\es.length=entries.size/\
   ∀(i:Nat)(e:AEnt),es[i]?=some e->∃e':MapEntry,entries[i]?=some e'/\VRel pl M e.key e'.key/\VRel pl M e.val e'.val/\e'.born=e.born
 | .siter s pos,some (.stringIter s' pos')=>p.ep=0/\p.sz=1/\s'=⟨⟨s⟩⟩/\pos'=pos
 | .miter m clock seen,some (.mapIter m' since seen' stepped)=>p.ep=0/\p.sz=1/\VRel pl M m (.map m')/\since=clock/\stepped=clock/\seen'.toList=seen
 |_,_=>False
structure RepF(pl:Pl)(M:dl)(n:Nat)(g:Nat->Option AObj)(w:World):Prop where
 dom:∀id p,pl id=some p->id<n
 obj:∀id p o,pl id=some p->g id=some o->bb pl M p o w.heap[p.blk]?
 blk:∀id p,pl id=some p->p.blk<w.heap.size
 inj:∀id id' p p',pl id=some p->pl id'=some p'->p.blk=p'.blk->id=id'
 imm:∀b c,M b=some c->∃t fr,w.heap[b]?=some (.cells c t fr)
 sep:∀id p,pl id=some p->M p.blk=none
abbrev ct(pl:Pl)(M:dl)(h:AHeap)(w:World):Prop:=RepF pl M h.n h.get w
def To(pl:Pl)(M:dl)(g:Nat)(x:AV):Prop:=VRel pl M (.pptr [x] 0 0) (.pointer (some ⟨g,0,none⟩))/\∃c,M g=some c/\c.size=x.cells.length
def pE(G:eB)(pl:Pl)(M:dl):Prop:=∀g x,G g=some x->To pl M g x
def nE(pl pl':Pl):Prop:=∀id p,pl id=some p->∃p',pl' id=some p'/\p.ep<=p'.ep/\(p.ep=p'.ep->p'=p)
def qW(M M':dl):Prop:=∀b c,M b=some c->M' b=some c
structure StepF(n:Nat)(g:Nat->Option AObj)(pl:Pl)(M:dl)(w:World)(g':Nat->Option AObj)(pl':Pl)(M':dl)(w':World):Prop where
 ext:nE pl pl'
 new:∀id,id<n->pl id=none->pl' id=none
 mem:qW M M'
 size:w.heap.size<=w'.heap.size
 kept:∀b,b<w.heap.size->(∀id p,pl id=some p->g id≠none->p.blk≠b)->w'.heap[b]?=w.heap[b]?
 blks:∀id p',pl' id=some p'->(∃p,pl id=some p/\p.blk=p'.blk)\/w.heap.size<=p'.blk
 live:∀id p,pl id=some p->g id=none->g' id=none
 stay:∀id p,pl id=some p->g id=none->pl' id=some p
 memNew:∀b c,M' b=some c->M b=some c\/w.heap.size<=b
 os:w'.os=w.os
 tape:w'.tape=w.tape
 out:w'.output=w.output
 drawn:w.drawn<=w'.drawn
abbrev cO(h:AHeap)(pl:Pl)(M:dl)(w:World)(h':AHeap)(pl':Pl)(M':dl)(w':World):Prop:=StepF h.n h.get pl M w h'.get pl' M' w'
theorem nE.refl(pl:Pl):nE pl pl:=fun _ p h=>⟨p,h,af _,fun _=>rfl⟩
theorem nE.trans{a b c:Pl}(h:nE a b)(k:nE b c):nE a c:=fun id p hp=>by
 obtain⟨p',h1,h2,h3⟩:=h id p hp;obtain⟨p'',k1,k2,k3⟩:=k id p' h1;grind
theorem StepF.refl(n:Nat)(g:Nat->Option AObj)(pl:Pl)(M:dl)(w:World):StepF n g pl M w g pl M w:=⟨nE.refl _,fun _ _ h=>h,fun _ _ h=>h,af _,fun _ _ _=>rfl,fun id p h=>.inl ⟨p,h,rfl⟩,fun _ _ _ h=>h,fun _ _ h _=>h,fun _ _ h=>.inl h,rfl,rfl,rfl,af _⟩
theorem cO.refl(h:AHeap)(pl:Pl)(M:dl)(w:World):cO h pl M w h pl M w:=StepF.refl _ _ _ _ _
theorem StepF.trans{n m:Nat}{g g' g'':Nat->Option AObj}{pl pl' pl'':Pl}{M M' M'':dl}{w w' w'':World}(h:StepF n g pl M w g' pl' M' w')(k:StepF m g' pl' M' w' g'' pl'' M'' w'')(hnm:n<=m):
  StepF n g pl M w g'' pl'' M'' w'':=by
 refine⟨h.ext.trans k.ext,fun id hid hp=>k.new id (by omega) (h.new id hid hp),fun b c hb=>k.mem b c (h.mem b c hb),bO h.size k.size,fun b hb hn=>?_,fun id p' hp'=>?_,fun id p hp hg=>?_,fun id p hp hg=>?_,fun b c hb=>?_,k.os.trans h.os,k.tape.trans h.tape,k.out.trans h.out,bO h.drawn k.drawn⟩;all_goals grind[cases StepF]
theorem cO.trans{h h' h'':AHeap}{pl pl' pl'':Pl}{M M' M'':dl}{w w' w'':World}(a:cO h pl M w h' pl' M' w')(b:cO h' pl' M' w' h'' pl'' M'' w'')(hnm:h.n<=h'.n):cO h pl M w h'' pl'' M'' w'':=StepF.trans a b hnm
theorem VRel.mono{pl pl':Pl}{M M':dl}{v:AV}{x:Value}(h:VRel pl M v x)(he:nE pl pl')(hm:qW M M'):VRel pl' M' v x:=by
 induction h with
 |bool b=>exact .bool b
 |int k n=>exact .int k n
 |str s=>exact .str s
 |nilp=>exact .nilp
 |ptr hp hle ha=>
  obtain⟨p',h1,h2,h3⟩:=he _ _ hp;refine .ptr h1 (by omega) fun e=>?_
  grind
 |pptr hm' hs hi hc ih=>exact .pptr ⟨hm'.1,hm _ _ hm'.2.1,hm'.2.2⟩ hs hi ih
 |nils=>exact .nils
 |slice hp hle hl hk ha=>
  obtain⟨p',h1,h2,h3⟩:=he _ _ hp;refine .slice h1 (by omega) hl hk fun e=>?_
  grind
 |sl0n _ ih=>exact .sl0n ih
 |sl0s _ ih=>exact .sl0s ih
 |ps hl ht hm' hs hc ih=>exact .ps hl ht (fun h=>⟨(hm' h).1,hm _ _ (hm' h).2.1,(hm' h).2.2⟩) hs ih
 |lsn=>exact .lsn
 |lsp _ ht ih=>exact .lsp ih ht
 |nilm=>exact .nilm
 |map hp ha=>
  obtain⟨p',h1,h2,h3⟩:=he _ _ hp;refine .map h1 fun e=>?_
  simp_all
 |func h1 h2 _ _ ih1 ih2=>exact .func h1 h2 ih1 ih2
 |nilf=>exact .nilf
 |iface _ ih=>exact .iface ih
 |nili=>exact .nili
 |agg h1 h2 _ ih=>exact .agg h1 h2 ih
 |tuple h1 _ ih=>exact .tuple h1 ih
theorem InMem.mono{pl pl':Pl}{M M':dl}{c:Array Value}{o sz:Nat}{xs:List AV}(h:InMem pl M c o sz xs)(he:nE pl pl')(hm:qW M M'):InMem pl' M' c o sz xs:=⟨h.fit,h.elem,fun i x j y h1 h2=>(h.cell i x j y h1 h2).mono he hm⟩
theorem bb.mono{pl pl':Pl}{M M':dl}{p:Place}{o:AObj}{x:Option Obj}(h:bb pl M p o x)(he:nE pl pl')(hm:qW M M'):bb pl' M' p o x:=by
 match o,x with
 | .dead,_=>trivial
 | .row sz op ep xs,some (.cells c t fr)=>
  obtain⟨h1,h2,h3,h4,h5,h6,h7,h8⟩:=h;exact⟨h1,h2,h3,h4,h5,h6,h7,h8.mono he hm⟩
 | .map es clock,some (.map entries clock')=>
  obtain⟨h1,h2,h3,h4⟩:=h;refine⟨h1,h2,h3,fun i e hi=>?_⟩;obtain⟨e',k1,k2,k3,k4⟩:=h4 i e hi;exact⟨e',k1,k2.mono he hm,k3.mono he hm,k4⟩
 | .siter s pos,some (.stringIter s' pos')=>exact h
 | .miter m clock seen,some (.mapIter m' since seen' stepped)=>exact⟨h.1,h.2.1,h.2.2.1.mono he hm,h.2.2.2⟩
theorem pE.mono{G:eB}{pl pl':Pl}{M M':dl}(h:pE G pl M)(he:nE pl pl')(hm:qW M M'):pE G pl' M':=fun g x hg=>⟨(h g x hg).1.mono he hm,by obtain⟨c,h1,h2⟩:=(h g x hg).2;exact⟨c,hm _ _ h1,h2⟩⟩
structure FrRel(pl:Pl)(M:dl)(A:Fr)(a:Act):Prop where
 size:a.tmps.size=A.n
 defers:a.defers=[]
 at_:∀t v,A.get t=some v->t<A.n/\VRel pl M v (a.tmps.getD t undef)
theorem FrRel.mono{pl pl':Pl}{M M':dl}{A:Fr}{a:Act}(h:FrRel pl M A a)(he:nE pl pl')(hm:qW M M'):FrRel pl' M' A a:=⟨h.size,h.defers,fun t v ht=>⟨(h.at_ t v ht).1,(h.at_ t v ht).2.mono he hm⟩⟩
section
variable{α:Type}
theorem fF(n:Nat):(Tr.nil:Tr α).get n=none:=rfl
theorem mW(l r:Tr α)(v:Option α):(Tr.node l v r).get 0=v:=rfl
theorem eN(l r:Tr α)(v:Option α)(m:Nat):(Tr.node l v r).get (m+1)=if m%2=0 then l.get (m/2)else r.get (m/2):=by
 show @Nat.casesOn (fun _=>Option α) (m%2) (l.get (m/2)) (fun _=>r.get (m/2))=_
 rcases Nat.mod_two_eq_zero_or_one m with h|h<;>rw[h]<;>rfl
theorem xS(d:Nat)(x:α):Tr.set (d+1) .nil 0 x=.node .nil (some x) .nil:=rfl
theorem xT(d m:Nat)(x:α):Tr.set (d+1) .nil (m+1) x=if m%2=0 then .node (Tr.set d .nil (m/2) x) none .nil else .node .nil none (Tr.set d .nil (m/2) x):=by
 show @Nat.casesOn (fun _=>Tr α) (m%2) (.node (Tr.set d .nil (m/2) x) none .nil) (fun _=>.node .nil none (Tr.set d .nil (m/2) x))=_
 rcases Nat.mod_two_eq_zero_or_one m with h|h<;>rw[h]<;>rfl
theorem oI(d:Nat)(l r:Tr α)(v:Option α)(x:α):Tr.set (d+1) (.node l v r) 0 x=.node l (some x) r:=rfl
theorem oL(d m:Nat)(l r:Tr α)(v:Option α)(x:α):Tr.set (d+1) (.node l v r) (m+1) x=if m%2=0 then .node (Tr.set d l (m/2) x) v r else .node l v (Tr.set d r (m/2) x):=by
 show @Nat.casesOn (fun _=>Tr α) (m%2) (.node (Tr.set d l (m/2) x) v r) (fun _=>.node l v (Tr.set d r (m/2) x))=_
 rcases Nat.mod_two_eq_zero_or_one m with h|h<;>rw[h]<;>rfl
theorem iR(d:Nat):∀(t:Tr α)(n:Nat)(x:α)(m:Nat)(y:α),n+1<2^d->(Tr.set d t n x).get m=some y->(m=n/\y=x)\/(m≠n/\t.get m=some y):=by
 induction d with
 |zero=>omega
 | succ d ih=>
  intro t n x m y hn h;have hn2:∀k,n=k+1->k/2+1<2^d:=by omega
  cases t with
  | nil=>
   cases n with
   |zero=>
    rw[xS]at h;cases m with
    |zero=>rw[mW]at h;simp_all
    |succ m=>grind[eN,fF]
   | succ n=>
    have hb:=hn2 n rfl;rw[xT]at h;cases m with
    |zero=>grind[mW]
    | succ m=>
     by_cases hn:n%2=0
     ·rw[if_pos hn,eN]at h;by_cases hm:m%2=0
      ·grind[fF]
      ·grind[fF]
     ·rw[if_neg hn,eN]at h;by_cases hm:m%2=0
      ·grind[fF]
      ·grind[fF]
  | node l v r=>
   cases n with
   |zero=>
    rw[oI]at h;cases m with
    |zero=>rw[mW]at h;simp_all
    |succ m=>grind[eN]
   | succ n=>
    have hb:=hn2 n rfl;rw[oL]at h;cases m with
    |zero=>grind[mW]
    |succ m=>
     rw[eN];by_cases hn:n%2=0
     ·rw[if_pos hn,eN]at h;grind
     ·rw[if_neg hn,eN]at h;grind
end
theorem dm(a b:Nat):Nat.blt a b=decide (a<b):=by rw[DN,decide_eq_true_iff,Nat.blt_eq]
theorem bU(a b:Nat):Nat.ble a b=decide (a<=b):=by rw[DN,decide_eq_true_iff,Nat.ble_eq]
theorem ao(a b:Nat):Nat.beq a b=decide (a=b):=by rw[DN,decide_eq_true_iff,Nat.beq_eq]
theorem AHeap.get_some{h:AHeap}{id:Nat}{o:AObj}:h.get id=some o↔id<h.n/\id<1000000/\h.t.get id=some o:=by grind[AHeap.get,dm,id]
theorem dY{h:AHeap}{o o':AObj}{id:Nat}(hg:(h.push o).get id=some o'):(id=h.n/\o'=o)\/(id<h.n/\h.get id=some o'):=by
 rw[AHeap.get_some]at hg;obtain⟨h1,h2,h3⟩:=hg;simp only[AHeap.push,dm]at h1 h3;by_cases hn:h.n<1000000
 ·simp only[hn,decide_true]at h3;rcases iR 20 h.t h.n o id o' (by omega) h3 with⟨e,k⟩|⟨e,k⟩
  ·simp_all
  ·exact .inr ⟨by omega,AHeap.get_some.2 ⟨by omega,h2,k⟩⟩
 ·simp only[hn,decide_false]at h3;exact .inr ⟨by omega,AHeap.get_some.2 ⟨by omega,h2,h3⟩⟩
theorem AHeap.get_put{h:AHeap}{o o':AObj}{id k:Nat}(hn:id<1000000)(hg:(h.put id o).get k=some o'):(k=id/\o'=o)\/(k≠id/\h.get k=some o'):=by
 rw[AHeap.get_some]at hg;obtain⟨h1,h2,h3⟩:=hg;simp only[AHeap.put]at h1 h3;rcases iR 20 h.t id o k o' (by omega) h3 with⟨e,q⟩|⟨e,q⟩
 ·simp_all
 ·exact .inr ⟨e,AHeap.get_some.2 ⟨h1,h2,q⟩⟩
theorem iY{h:AHeap}{o:AObj}{id n:Nat}(hn:n<=h.n)(hg:(h.cut n).get id=some o):id<n/\h.get id=some o:=by
 rw[AHeap.get_some]at hg;obtain⟨h1,h2,h3⟩:=hg;simp only[AHeap.cut]at h1 h3;exact⟨h1,AHeap.get_some.2 ⟨by omega,h2,h3⟩⟩
theorem Fr.get_put{A A':Fr}{i j:Nat}{v u:AV}(hn:A.n<=60000)(hp:A.put i v=some A')(hg:A'.get j=some u):A'.n=A.n/\i<A.n/\((j=i/\u=v)\/(j≠i/\A.get j=some u)):=by
 unfold Fr.put at hp;rcases hb:Nat.blt i A.n with _|_<;>simp only[hb,ve,reduceCtorEq]at hp
 subst hp;have hi:i<A.n:=by simp_all
 exact⟨rfl,hi,iR 16 A.t i v j u (by omega) hg⟩
end Go.Ev
namespace Go.Ev
open Go
def upd(pl:Pl)(id:Nat)(p:Place):Pl:=fun k=>if k=id then some p else pl k
def y8(M:dl)(b:Nat)(c:Array Value):dl:=fun k=>if k=b then some c else M k
theorem dP(pl:Pl)(id:Nat)(p:Place):upd pl id p id=some p:=by simp[upd]
theorem cT{pl:Pl}{id k:Nat}{p:Place}(h:k≠id):upd pl id p k=pl k:=by grind[upd]
structure WSame(w w':World):Prop where
 os:w'.os=w.os
 tape:w'.tape=w.tape
 out:w'.output=w.output
 drawn:w.drawn<=w'.drawn
theorem WSame.refl(w:World):WSame w w:=⟨rfl,rfl,rfl,af _⟩
section
variable{pl:Pl}{M:dl}{h:AHeap}{w w':World}{G:eB}
theorem ct.memLt(hr:ct pl M h w){b:Nat}{c:Array Value}(hb:M b=some c):b<w.heap.size:=by
 obtain⟨t,fr,h1⟩:=hr.imm b c hb;grind
theorem ct.memNone(hr:ct pl M h w){b:Nat}(hb:w.heap.size<=b):M b=none:=by
 cases hm:M b with
 |none=>rfl
 |some c=>have:=hr.memLt hm;omega
theorem Gn{a:Array Obj}{o:Obj}{b:Nat}(hb:b<a.size):(a.push o)[b]?=a[b]?:=by grind
theorem Qo{a:Array Obj}{o:Obj}:(a.push o)[a.size]?=some o:=by simp
theorem ct.alloc(hr:ct pl M h w){ob:Obj}{o:AObj}{p:Place}(hw:w'.heap=w.heap.push ob)(hs:WSame w w')(hb:p.blk=w.heap.size)
  (ho:bb (upd pl h.n p) M p o (some ob)):ct (upd pl h.n p) M (h.push o) w'/\cO h pl M w (h.push o) (upd pl h.n p) M w':=by
 have hext:nE pl (upd pl h.n p):=fun id q hq=>⟨q,by rw[cT (by have:=hr.dom id q hq;omega)];omega,af _,fun _=>rfl⟩
 have hcase:∀id q,upd pl h.n p id=some q->(id=h.n/\q=p)\/(id<h.n/\pl id=some q):=by
  intro id q hq;by_cases e:id=h.n
  ·subst e;rw[dP]at hq;simp_all
  ·rw[cT e]at hq;exact .inr ⟨hr.dom id q hq,hq⟩
 refine⟨⟨?_,?_,?_,?_,?_,?_⟩,⟨hext,?_,fun _ _ h=>h,by simp_all,?_,?_,?_,?_,fun _ _ h=>.inl h,hs.os,hs.tape,hs.out,hs.drawn⟩⟩
 ·intro id q hq;show id<h.n+1
  grind
 ·intro id q o' hq hg;rcases hcase id q hq with⟨e,e2⟩|⟨e,e2⟩
  ·subst e;subst e2;rcases dY hg with⟨_,k⟩|⟨k,_⟩
   all_goals simp_all
  ·rcases dY hg with⟨k,_⟩|⟨_,k⟩
   ·omega
   ·rw[hw,Gn (hr.blk id q e2)];exact(hr.obj id q o' e2 k).mono hext (fun _ _ h=>h)
 ·intro id q hq;rw[hw,Array.size_push];rcases hcase id q hq with⟨_,e2⟩|⟨_,e2⟩
  ·simp_all
  ·have:=hr.blk id q e2;omega
 ·intro id id' q q' hq hq' e;rcases hcase id q hq with⟨a,b⟩|⟨a,b⟩<;>rcases hcase id' q' hq' with⟨a',b'⟩|⟨a',b'⟩
  ·omega
  ·subst b;have:=hr.blk id' q' b';omega
  ·subst b';have:=hr.blk id q b;omega
  ·exact hr.inj id id' q q' b b' e
 ·intro b c hbc;obtain⟨t,fr,h1⟩:=hr.imm b c hbc;grind
 ·intro id q hq;rcases hcase id q hq with⟨_,e2⟩|⟨_,e2⟩
  ·subst e2;rw[hb];exact hr.memNone (af _)
  ·exact hr.sep id q e2
 ·grind[cT]
 ·grind
 ·grind
 ·intro id q hq hg;cases hg2:(h.push o).get id with
  |none=>rfl
  |some o2=>
   rcases dY hg2 with⟨k,_⟩|⟨_,k⟩
   ·have:=hr.dom id q hq;omega
   ·grind
 ·intro id q hq _;rw[cT (by have:=hr.dom id q hq;omega)];omega
theorem ct.change(hr:ct pl M h w){id:Nat}{p p':Place}{o o':AObj}(hp:pl id=some p)(hg:h.get id=some o)(hpp:p'=p\/p.ep<p'.ep)(hs:WSame w w')
  (hsz:w.heap.size<=w'.heap.size)(hk:∀b,b<w.heap.size->b≠p.blk->w'.heap[b]?=w.heap[b]?)(hb:p'.blk=p.blk\/w.heap.size<=p'.blk)(hlt:p'.blk<w'.heap.size)
  (ho:bb (upd pl id p') M p' o' w'.heap[p'.blk]?):ct (upd pl id p') M (h.put id o') w'/\cO h pl M w (h.put id o') (upd pl id p') M w':=by
 have hid:id<1000000:=(AHeap.get_some.1 hg).2.1;have hext:nE pl (upd pl id p'):=by
  intro k q hq;by_cases e:k=id
  ·subst e;rw[hp]at hq;have hq':p=q:=by simp_all
   subst hq';refine⟨p',dP _ _ _,?_,?_⟩;all_goals grind
  ·exact⟨q,by grind[cT],af _,fun _=>rfl⟩
 have hcase:∀k q,upd pl id p' k=some q->(k=id/\q=p')\/(k≠id/\pl k=some q):=by
  intro k q hq;by_cases e:k=id
  ·subst e;rw[dP]at hq;simp_all
  grind[cT]
 have hpb:=hr.blk id p hp;refine⟨⟨?_,?_,?_,?_,?_,?_⟩,⟨hext,?_,fun _ _ h=>h,hsz,?_,?_,?_,?_,fun _ _ h=>.inl h,hs.os,hs.tape,hs.out,hs.drawn⟩⟩
 ·intro k q hq;show k<h.n
  rcases hcase k q hq with⟨e,_⟩|⟨_,e⟩
  ·subst e;exact hr.dom _ p hp
  ·exact hr.dom k q e
 ·intro k q oo hq hgg;rcases hcase k q hq with⟨e,e2⟩|⟨e,e2⟩
  ·subst e;subst e2;rcases AHeap.get_put hid hgg with⟨_,q1⟩|⟨q1,_⟩
   all_goals simp_all
  ·rcases AHeap.get_put hid hgg with⟨q1,_⟩|⟨_,q1⟩
   ·omega
   ·rw[hk q.blk (hr.blk k q e2) (fun e3=>e (hr.inj k id q p e2 hp e3))];exact(hr.obj k q oo e2 q1).mono hext (fun _ _ h=>h)
 ·intro k q hq;rcases hcase k q hq with⟨_,e2⟩|⟨_,e2⟩
  ·simp_all
  ·have:=hr.blk k q e2;omega
 ·intro k k' q q' hq hq' e;rcases hcase k q hq with⟨a,b⟩|⟨a,b⟩<;>rcases hcase k' q' hq' with⟨a',b'⟩|⟨a',b'⟩
  ·omega
  ·subst b;exfalso;rcases hb with e3|e3
   ·exact a' (hr.inj k' id q' p b' hp (by omega))
   ·have:=hr.blk k' q' b';omega
  ·subst b';exfalso;rcases hb with e3|e3
   ·exact a (hr.inj k id q p b hp (by omega))
   ·have:=hr.blk k q b;omega
  ·exact hr.inj k k' q q' b b' e
 ·intro b c hbc;obtain⟨t,fr,h1⟩:=hr.imm b c hbc;refine⟨t,fr,?_⟩;rw[hk b (hr.memLt hbc) (fun e=>by have:=hr.sep id p hp;simp_all)];omega
 ·intro k q hq;rcases hcase k q hq with⟨_,e2⟩|⟨_,e2⟩
  ·subst e2;rcases hb with e3|e3
   ·rw[e3];exact hr.sep id p hp
   ·exact hr.memNone e3
  ·exact hr.sep k q e2
 ·grind[cT]
 ·grind
 ·grind
 ·intro k q hq hg2;cases hg3:(h.put id o').get k with
  |none=>rfl
  |some o2=>grind[AHeap.get_put]
 grind[cT]
theorem qw{id:Nat}{p:Place}(hp:pl id=some p):upd pl id p=pl:=by
 funext k;by_cases e:k=id
 ·grind[dP]
 ·rw[cT e]
theorem ct.samePut(hr:ct pl M h w){id:Nat}{p:Place}{o:AObj}(hp:pl id=some p)(hg:h.get id=some o):ct pl M (h.put id o) w/\cO h pl M w (h.put id o) pl M w:=by
 have e:=qw (pl:=pl) hp;have:=ct.change (o':=o) (w':=w) hr hp hg (.inl rfl) (WSame.refl w) (af _) (fun b _ _=>rfl) (.inl rfl) (hr.blk id p hp) (by rw[e];exact hr.obj id p o hp hg);simp_all
theorem Bp(hr:ct pl M h w){c:Array Value}{t:TypeId}{fr:Nat×Nat}(hw:w'.heap=w.heap.push (.cells c t fr))(hs:WSame w w'):
  ct pl (y8 M w.heap.size c) h w'/\cO h pl M w h pl (y8 M w.heap.size c) w':=by
 have hm:qW M (y8 M w.heap.size c):=by
  intro b c' hb;have:=hr.memLt hb;grind[y8]
 refine⟨⟨hr.dom,?_,?_,hr.inj,?_,?_⟩,⟨nE.refl _,fun _ _ h=>h,hm,by simp_all,fun b hb _=>by grind,fun id p h=>.inl ⟨p,h,rfl⟩,fun _ _ _ h=>h,fun _ _ h _=>h,fun b c' hb=>?_,hs.os,hs.tape,hs.out,hs.drawn⟩⟩
 ·intro id p o h1 h2;rw[hw,Gn (hr.blk id p h1)];exact(hr.obj id p o h1 h2).mono (nE.refl _) hm
 ·intro id p h1;rw[hw,Array.size_push];have:=hr.blk id p h1;omega
 ·intro b c' hb;by_cases e:b=w.heap.size
  ·grind[y8]
  ·simp[y8,e]at hb;obtain⟨t',fr',h1⟩:=hr.imm b c' hb;grind
 ·intro id p h1;have:=hr.blk id p h1;simp[y8,show p.blk≠w.heap.size by omega,hr.sep id p h1]
 grind[y8]
end
section
variable{P:Program}{G:eB}{pl:Pl}{M:dl}
theorem n9{α:Type}:∀(l:List α)(n:Nat),jo l n=l[n]?
 |[],n=>by cases n<;>rfl
 |x::r,0=>rfl
 |x::r,n+1=>by simp only[jo,List.getElem?_cons_succ];exact n9 r n
theorem ME{α:Type}{vs:Array α}{j:Nat}{d:α}(h:j<vs.size):vs[j]?=some (vs.getD j d):=by simp_all
theorem VRels.get{as:List AV}{vs:Array Value}(h:VRels pl M as vs){j:Nat}{y:AV}(hj:as[j]?=some y):vs[j]?=some (vs.getD j undef):=by
 apply ME;grind[cases VRels]
theorem VRel.cells{v:AV}{x:Value}(h:VRel pl M v x):VRels pl M v.cells x.cells:=by
 have one:∀(v:AV)(x:Value),VRel pl M v x->VRels pl M [v] #[x]:=fun v x h=>⟨rfl,fun j y hj=>by
  cases j with
  |zero=>simp_all
  |succ j=>simp_all⟩
 cases h with
 |agg h1 h2 h3=>exact⟨h1,h3⟩
 |lsp h1 ht=>cases h1 with|ps a b c d e=>exact one _ _ (.lsp (.ps a b c d e) ht)
 |sl0s h1=>cases h1 with|slice a b c d e=>exact one _ _ (.sl0s (.slice a b c d e))
 |sl0n h1=>cases h1 with|lsn=>exact one _ _ (.sl0n .lsn)|lsp h2 ht=>cases h2 with|ps a b c d e=>exact one _ _ (.sl0n (.lsp (.ps a b c d e) ht))
 |_=>exact one _ _ (by constructor<;>assumption)
theorem VRel.sc{v:AV}{x:Value}(h:VRel pl M v x)(hf:fZ v=true):Sc v:=by
 cases h with
 |agg h1 h2 h3=>exact h2
 |tuple=>grind[fZ]
 |_=>intro y hy;simp[AV.cells]at hy;subst hy;rfl
theorem VRel.one{v:AV}{x:Value}(h:VRel pl M v x)(hf:cN v=true):x.oneCell'=true:=by
 cases h with
 |lsp h1 _=>cases h1;rfl
 |sl0s h1=>cases h1;rfl
 |sl0n h1=>cases h1 with|lsn=>rfl|lsp h2 _=>cases h2;rfl
 |_=>first|rfl|simp[cN]at hf
theorem VRels.one{as:List AV}{vs:Array Value}(h:VRels pl M as vs)(hf:∀y,y∈as->cN y=true):∀u∈vs.toList,u.oneCell'=true:=by
 intro u hu;obtain⟨j,hj,e⟩:=List.mem_iff_getElem.1 hu;have hjs:j<as.length:=by grind[cases VRels]
 have h1:=h.at_ j as[j] (kE hjs);have h2:vs.getD j undef=u:=by
  have:j<vs.size:=by omega
  simp_all
 rw[<-h2];exact h1.one (hf _ (DM hjs))
theorem As(v:AV)(hf:fZ v=true):(∃cs,v=.agg cs)\/(cN v=true/\v.cells=[v]):=by cases v<;>first|(exact .inl ⟨_,rfl⟩)|(simp[fZ]at hf;done)|exact .inr ⟨rfl,rfl⟩
theorem CP{c:Value}{v:AV}(h:jC c=some v):VRel pl M v c/\cN v=true:=by
 cases c with
 |bool b=>simp[jC]at h;subst h;exact⟨.bool _,rfl⟩
 |int k n=>simp[jC]at h;subst h;exact⟨.int _ _,rfl⟩
 |string s=>simp[jC]at h;subst h;exact⟨.str _,rfl⟩
 |pointer a=>cases a<;>simp[jC]at h;subst h;exact⟨.nilp,rfl⟩
 |slice a n m=>
  cases a with
  |some a=>grind[jC]
  |none=>cases n<;>cases m<;>simp[jC]at h;subst h;exact⟨.nils,rfl⟩
 |map r=>cases r<;>simp[jC]at h;subst h;exact⟨.nilm,rfl⟩
 |nilFunc=>simp[jC]at h;subst h;exact⟨.nilf,rfl⟩
 |nilIface=>simp[jC]at h;subst h;exact⟨.nili,rfl⟩
 |func fn a b=>
  obtain⟨a⟩:=a;obtain⟨b⟩:=b;cases a<;>cases b<;>simp[jC]at h
  subst h;exact⟨.func rfl rfl (fun j y h=>by simp_all) (fun j y h=>by simp_all),rfl⟩
 |_=>simp[jC]at h
theorem zG:∀(l:List Value)(as:List AV),pU l=some as->as.length=l.length/\(∀y,y∈as->cN y=true)/\∀(j:Nat)(y:AV),as[j]?=some y->∃c:Value,l[j]?=some c/\VRel pl M y c
 |[],as,h=>by
  simp[pU]at h;simp_all
 | c::r,as,h=>by
  simp only[pU]at h;cases h1:jC c with
  |none=>simp_all
  | some v=>
   cases h2:pU r with
   |none=>simp_all
   |some vs=>
    simp[h1,h2]at h;subst h;obtain⟨a,b,d⟩:=zG r vs h2;obtain⟨e1,e2⟩:=CP (pl:=pl) (M:=M) h1;grind
theorem dj{c:Value}{v:AV}(h:ofValue c=some v):VRel pl M v c:=by
 cases c with
 | agg cs=>
  simp only[ofValue]at h;cases h1:pU cs.toList with
  |none=>simp_all
  |some as=>
   simp[h1]at h;subst h;obtain⟨a,b,d⟩:=zG (pl:=pl) (M:=M) _ _ h1;refine .agg (by omega) b fun j y hj=>?_
   obtain⟨c,hc,hv⟩:=d j y hj;simp_all
 |tuple vs=>
  obtain⟨vs⟩:=vs;cases vs<;>simp[ofValue]at h
  subst h;exact .tuple rfl (fun j y h=>by simp_all)
 |_=>exact(CP (by simpa[ofValue]using h)).1
theorem bZ{A:Fr}{a:Act}{x:Operand}{v:AV}(hg:pE G pl M)(hf:FrRel pl M A a)(h:(cj G x).run A=some v):VRel pl M v (a.eval x):=by
 cases x with
 |tmp t=>exact(hf.at_ t v h).2
 |const c=>exact dj h
 |global g=>
  simp only[cj]at h;cases hx:G g with
  |none=>simp_all
  |some x=>simp[hx]at h;subst h;exact(hg g x hx).1
 |func f=>simp[cj]at h;subst h;exact .func rfl rfl (fun j y h=>by simp_all) (fun j y h=>by simp_all)
theorem rf{A:Fr}{a:Act}(hg:pE G pl M)(hf:FrRel pl M A a):∀(xs:List Operand)(vs:List AV),(vH G xs).run A=some vs->VRels pl M vs (xs.map a.eval).toArray
 |[],vs,h=>by simp[vH]at h;subst h;exact⟨rfl,fun j y hj=>by simp_all⟩
 | x::r,vs,h=>by
  simp only[vH]at h;cases h1:(cj G x).run A with
  |none=>grind[Nq]
  | some v=>
   cases h2:(vH G r).run A with
   |none=>grind[Nq]
   | some l=>
    simp[h1,h2,Nq]at h;subst h;have ih:=rf hg hf r l h2;refine⟨by simpa using ih.len,fun j y hj=>?_⟩;cases j with
    |zero=>simp at hj;subst hj;simpa[Array.getD]using bZ hg hf h1
    |succ j=>
     have:=ih.at_ j y (by simp_all);simp_all
theorem NA{t:TypeId}{n:Nat}(h:cP P t=some n):∃i,P.info? t=some i/\i.size=n:=by grind[cP]
theorem cF{t:TypeId}{n:Nat}(h:cP P t=some n)(w:World):(sizeOf t).run P w=.ok n w:=by
 obtain⟨i,hi,e⟩:=NA h;simp_all[sizeOf,typeInfo]
theorem mp{t:TypeId}{b:Bool}(h:cH P t=some b)(w:World):(isAgg t).run P w=.ok b w:=by
 unfold cH at h;split at h<;>simp at h<;>subst h<;>rename_i hu<;>(try simp[isAgg,run_underlying hu])
theorem mF{t:TypeId}{z:AV}(h:ia P t=some z):∃i zv,P.info? t=some i/\i.zero=some zv/\ofValue zv=some z:=by grind[ia]
theorem lr{t:TypeId}{z:AV}(h:ia P t=some z):∃zv,(∀w,(zeroValue t).run P w=.ok zv w)/\ofValue zv=some z:=by
 obtain⟨i,zv,hi,hz,ho⟩:=mF h;simp_all[zeroValue,typeInfo]
theorem wP{ag:Bool}{n off:Nat}{cs:List AV}{v:AV}(h:ux ag n cs off=some v):
  (ag=true/\off+n<=cs.length/\v=.agg ((cs.drop off).take n))\/(ag=false/\cs[off]?=some v):=by
 unfold ux at h;cases ag with
 |true=>
  simp only[bU]at h;grind
 |false=>exact .inr ⟨rfl,by grind[n9]⟩
theorem Gb{cs:List AV}{vs:Array Value}(h:VRels pl M cs vs)(hs:∀y,y∈cs->cN y=true){ag:Bool}{n off:Nat}{v:AV}{t:TypeId}
  (h1:cH P t=some ag)(h2:cP P t=some n)(hp:ux ag n cs off=some v):∃cv,(∀w,(part t vs off).run P w=.ok cv w)/\VRel pl M v cv:=by
 rcases wP hp with⟨e,hl,e2⟩|⟨e,hl⟩
 ·subst e;subst e2;refine⟨.agg (vs.extract off (off+n)),fun w=>by simp_all[part,mp,cF],?_⟩;refine .agg ?_ (fun y hy=>hs y (Pr (sV hy))) fun j y hj=>?_
  ·grind[cases VRels]
  ·rw[List.getElem?_take]at hj;split at hj
   ·rename_i hjn;rw[List.getElem?_drop]at hj;have:=h.at_ _ _ hj;have hlt:off+j<vs.size:=by rw[<-h.len];omega
    have e3:(vs.extract off (off+n)).getD j undef=vs.getD (off+j) undef:=by
     simp only[gv,Array.getElem?_extract];grind
    simp_all
   simp_all
 ·subst e;have hr:=h.at_ _ _ hl;have hg:=h.get hl;generalize vs.getD off undef=u at hr hg;simp_all[part,mp]
theorem nS{w:World}{b k:Nat}{c:Array Value}{t:TypeId}{fr:Nat×Nat}(hb:w.heap[b]?=some (.cells c t fr))(hk:k<c.size):w.cell? ⟨b,k,none⟩=some (c.getD k undef):=by simp_all[World.cell?]
theorem uX{w:World}{b:Nat}{c:Array Value}{t:TypeId}{fr:Nat×Nat}(hb:w.heap[b]?=some (.cells c t fr)){o:Nat}{cs:List AV}(hfit:o+cs.length<=c.size)
  (hc:∀j y,cs[j]?=some y->VRel pl M y (c.getD (o+j) undef))(hs:∀y,y∈cs->cN y=true){ag:Bool}{n off:Nat}{v:AV}{ty:TypeId}
  (h1:cH P ty=some ag)(h2:cP P ty=some n)(hp:ux ag n cs off=some v):∃cv,(loadVar ty ⟨b,o+off,none⟩).run P w=.ok cv w/\VRel pl M v cv:=by
 rcases wP hp with⟨e,hl,e2⟩|⟨e,hl⟩
 ·subst e;subst e2;have hld:(loadCells ⟨b,o+off,none⟩ n).run P w=.ok ((List.range n).map fun j=>c.getD (o+off+j) undef).toArray w:=by
   have:=run_loadCells_list (P:=P) w ⟨b,o+off,none⟩ ((List.range n).map fun j=>c.getD (o+off+j) undef) (fun j u hj=>by grind[Addr.add_lit,nS]);simp_all
  refine⟨.agg ((List.range n).map fun j=>c.getD (o+off+j) undef).toArray,by simp_all[loadVar,mp,cF],?_⟩;refine .agg (by grind) (fun y hy=>hs y (Pr (sV hy))) fun j y hj=>?_
  simp_all[List.getElem?_take,Nat.add_assoc]
 ·subst e;have hlt:off<cs.length:=(fp.1 hl).1;refine⟨c.getD (o+off) undef,?_,hc _ _ hl⟩;simp[loadVar,mp h1,nS hb (show o+off<c.size by omega)]
end
def qJ(pl:Pl)(M:dl)(h:AHeap)(w:World)(r:Result Next)(v:AV)(h':AHeap):Prop:=∃(pl':Pl)(M':dl)(cv:Value)(w':World)(nx:Next),r=.ok nx w'/\(nx=.value cv\/(nx=.skip/\cv=undef))/\VRel pl' M' v cv/\ct pl' M' h' w'/\cO h pl M w h' pl' M' w'/\h.n<=h'.n
def iS(P:Program)(G:eB)(op:Op):Prop:=
 ∀(pl:Pl)(M:dl)(A:Fr)(h:AHeap)(v:AV)(h':AHeap)(a:Act)(w:World)(dst:Option Tmp)(ty:TypeId)(pos:String)(after:Array Edge)(guard:Option (Nat×Bool)),
  pE G pl M->ct pl M h w->FrRel pl M A a->(eT P G op).run A h=some (.val v h')->qJ pl M h w ((execOp a.eval ⟨dst,op,ty,pos,after,guard⟩).run P w) v h'
section
variable{P:Program}{G:eB}{pl:Pl}{M:dl}{h h':AHeap}{w w':World}{v:AV}{A:Fr}{a:Act}
theorem qJ.pure{cv:Value}(hr:ct pl M h w)(hv:VRel pl M v cv):qJ pl M h w (.ok (.value cv) w) v h:=⟨pl,M,cv,w,_,rfl,.inl rfl,hv,hr,cO.refl _ _ _ _,af _⟩
theorem bu{o:Option AV}{r:ARes}(e:bc h o=some r):∃v,o=some v/\r=.val v h:=by
 cases o with
 |none=>grind[bc]
 |some v=>simp[bc]at e;simp_all
theorem aw{r:ARes}(e:dB.run A h=some r):False:=by grind[dB]
theorem LM(x:Operand):iS P G (.move x):=by
 intro pl M A h v h' a w dst ty pos after guard hg hr hf he;obtain⟨u,e1,e2⟩:=bu he;simp at e2;obtain⟨rfl,rfl⟩:=e2;exact qJ.pure hr (bZ hg hf e1)
theorem OX(x:Operand):iS P G (.assign x):=LM x
theorem Ul(c x y:Operand):iS P G (.pick c x y):=by
 intro pl M A h v h' a w dst ty pos after guard hg hr hf he;obtain⟨u,e1,e2⟩:=bu he;simp at e2;obtain⟨rfl,rfl⟩:=e2;cases hc:(cj G c).run A with
 |none=>grind[LF]
 |some cv=>
  have hcv:=bZ hg hf hc;rw[hc]at e1;cases cv<;>simp[LF]at e1
  rename_i b;generalize hx:a.eval c=xc at hcv;cases hcv
  cases b
  ·simp at e1;simpa[execOp,hx,asBool]using qJ.pure hr (bZ hg hf e1)
  ·simp at e1;simpa[execOp,hx,asBool]using qJ.pure hr (bZ hg hf e1)
theorem JB{x:AV}{n:Nat}(e:fP x=some n):∃k,x=.int k (n:Int):=by
 unfold fP at e;split at e;all_goals simp_all
theorem GC{n:Nat}{x:Option AV}{v:AV}(e:offset n x=some v):
  (∃id ep i off,x=some (.ptr id ep i off)/\v=.ptr id ep i (off+n))\/(∃xs i off,x=some (.pptr xs i off)/\v=.pptr xs i (off+n)):=by
 unfold offset at e;grind
theorem CO{n:Nat}{x v:AV}{cx:Value}(e:offset n (some x)=some v)(hx:VRel pl M x cx):∃ad,cx=.pointer (some ad)/\VRel pl M v (.pointer (some (ad.add n))):=by
 rcases GC e with⟨id,ep,i,off,h1,h2⟩|⟨xs,i,off,h1,h2⟩
 ·simp at h1;subst h1;subst h2;cases hx with
  |ptr hp hle ha=>
   refine⟨_,rfl,.ptr hp hle fun e=>?_⟩;grind[Addr.add_lit]
 ·simp at h1;subst h1;subst h2;cases hx with
  |pptr hm hs hi hc=>
   refine⟨_,rfl,?_⟩;rw[Addr.add_lit,Nat.add_assoc];exact .pptr hm hs hi hc
theorem Ee(s:TypeId)(x:Operand)(f:Nat):iS P G (.fieldAddr s x f):=by
 intro pl M A h v h' a w dst ty pos after guard hg hr hf he;simp only[eT]at he;cases h1:fieldsOf P s with
 |none=>grind[aw]
 | some fs=>
  simp only[h1]at he;cases h2:fs[f]? with
  |none=>grind[aw]
  | some fd=>
   simp only[h2]at he;cases h3:cP P fd.type with
   |none=>grind[aw]
   | some n=>
    cases n with
    |zero=>grind[aw]
    | succ n=>
     simp only[h3]at he;obtain⟨u,e1,e2⟩:=bu he;simp at e2;obtain⟨rfl,rfl⟩:=e2;cases hx:(cj G x).run A with
     |none=>grind[offset]
     |some xv=>
      rw[hx]at e1;obtain⟨ad,e3,e4⟩:=CO e1 (bZ hg hf hx);have hu:P.underlying s=some (.struct fs):=by grind[fieldsOf]
      simp_all[Instr.fieldAt,run_underlying,Instr.sureAddr,fieldPlace,cF,execOp,qJ.pure]
theorem QS(s:TypeId)(x:Operand)(f:Nat):iS P G (.field s x f):=by
 intro pl M A h v h' a w dst ty pos after guard hg hr hf he;simp only[eT]at he;cases h1:fieldsOf P s with
 |none=>grind[aw]
 | some fs=>
  simp only[h1]at he;cases h2:fs[f]? with
  |none=>grind[aw]
  | some fd=>
   simp only[h2]at he;cases h3:cH P fd.type with
   |none=>grind[aw]
   | some ag=>
    cases h4:cP P fd.type with
    |none=>grind[aw]
    | some n=>
     simp only[h3,h4]at he;obtain⟨u,e1,e2⟩:=bu he;simp at e2;obtain⟨rfl,rfl⟩:=e2;cases hx:(cj G x).run A with
     |none=>grind[J8]
     | some xv=>
      have hxv:=bZ hg hf hx;rw[hx]at e1;cases xv<;>simp[J8]at e1
      generalize hq:a.eval x=cx at hxv;cases hxv with
      |agg g1 g2 g3=>
       obtain⟨cv,k1,k2⟩:=Gb (P:=P) ⟨g1,g3⟩ g2 h3 h4 e1;have hu:P.underlying s=some (.struct fs):=by grind[fieldsOf]
       simp_all[execOp,Instr.field,run_underlying,asAgg,qJ.pure]
theorem Js(t:Operand)(i:Nat):iS P G (.extract t i):=by
 intro pl M A h v h' a w dst ty pos after guard hg hr hf he;obtain⟨u,e1,e2⟩:=bu he;simp at e2;obtain⟨rfl,rfl⟩:=e2;cases hx:(cj G t).run A with
 |none=>simp_all[ext]
 | some xv=>
  have hxv:=bZ hg hf hx;rw[hx]at e1;cases xv<;>simp[ext]at e1
  rw[n9]at e1;generalize hq:a.eval t=cx at hxv;cases hxv with
  |tuple g1 g3=>
   have k1:=g3 _ _ e1;have k2:=VRels.get ⟨g1,g3⟩ e1;simp_all[Array.getD,execOp,Instr.extract,qJ.pure]
theorem Gu(x:Operand):iS P G (.nilCheck x):=by
 intro pl M A h v h' a w dst ty pos after guard hg hr hf he;obtain⟨u,e1,e2⟩:=bu he;simp at e2;obtain⟨rfl,rfl⟩:=e2;cases hx:(cj G x).run A with
 |none=>grind[YH]
 | some xv=>
  have hxv:=bZ hg hf hx;rw[hx]at e1;generalize hq:a.eval x=cx at hxv;unfold YH at e1;split at e1<;>simp at e1
  ·rename_i e;simp at e;subst e;subst e1;have:=hxv;cases hxv
   simp_all[execOp,qJ.pure]
  ·rename_i e;simp at e;subst e;subst e1;have:=hxv;cases hxv
   simp_all[execOp,qJ.pure]
  ·rename_i e;simp at e;subst e;subst e1;have:=hxv;cases hxv
   simp_all[execOp,qJ.pure]
theorem GB(fn:Fn)(xs ys:Array Operand):iS P G (.makeFunc fn xs ys):=by
 intro pl M A h v h' a w dst ty pos after guard hg hr hf he;simp only[eT]at he;cases h1:(vH G xs.toList).run A with
 |none=>simp_all
 | some as=>
  cases h2:(vH G ys.toList).run A with
  |none=>simp_all
  |some bs=>
   simp[h1,h2]at he;obtain⟨rfl,rfl⟩:=he;have k1:=rf hg hf _ _ h1;have k2:=rf hg hf _ _ h2;have e1:(xs.toList.map a.eval).toArray=xs.map a.eval:=by grind
   have e2:(ys.toList.map a.eval).toArray=ys.map a.eval:=by grind
   rw[e1]at k1;rw[e2]at k2;simpa[execOp,Instr.makeFunc]using qJ.pure hr (.func k1.len k2.len k1.at_ k2.at_)
theorem vL(t:TypeId)(x:Operand):iS P G (.makeInterface t x):=by
 intro pl M A h v h' a w dst ty pos after guard hg hr hf he;simp only[eT]at he;cases hu:P.underlying t with
 |none=>grind[aw]
 | some d=>
  have hd:(∃ms,d=.interface ms)\/∀ms,d≠.interface ms:=by grind
  rcases hd with⟨ms,rfl⟩|hd
  ·grind[aw]
  ·have he2:bc h (one (fun v=>some (.iface t v)) ((cj G x).run A))=some (.val v h'):=by simp_all
   obtain⟨u,e1,e2⟩:=bu he2;simp at e2;obtain⟨rfl,rfl⟩:=e2;cases hx:(cj G x).run A with
   |none=>grind[one]
   | some xv=>
    simp[hx,one]at e1;subst e1;have hrun:(Instr.makeInterface t (a.eval x)).run P w=.ok (.iface t (a.eval x)) w:=by
     simp only[Instr.makeInterface,Sem.run_bind,run_underlying hu,Result.andThen_ok];rfl
    simpa[execOp,hrun]using qJ.pure hr (.iface (bZ hg hf hx))
end
section
variable{P:Program}{G:eB}{pl:Pl}{M:dl}{h h':AHeap}{w w':World}{v:AV}{A:Fr}{a:Act}
theorem Qe(hr:ct pl M h w){id ep i off sz ep':Nat}{op:Bool}{xs:List AV}{ad:Addr}(hx:VRel pl M (.ptr id ep i off) (.pointer (some ad)))
  (hg:h.get id=some (.row sz op ep' xs))(he:ep=ep'):∃p c t,pl id=some p/\ad=⟨p.blk,i*sz+off,none⟩/\w.heap[p.blk]?=some (.cells c t (0,0))/\
   p.ep=ep/\p.sz=sz/\p.n=xs.length/\p.tot=c.size/\0<sz/\(op=false->c.size=xs.length*sz)/\InMem pl M c 0 sz xs:=by
 cases hx with
 | ptr hp hle ha=>
  rename_i p;have ho:=hr.obj id p _ hp hg;cases hb:w.heap[p.blk]? with
  |none=>rw[hb]at ho;simp[bb]at ho
  |some ob=>
   rw[hb]at ho;cases ob<;>simp only[bb]at ho
   rename_i c t fr;obtain⟨h1,h2,h3,h4,h5,h6,h7,h8⟩:=ho;subst h5;refine⟨p,c,t,hp,?_,hb,by omega,h2,h3,h4,h6,h7,h8⟩;rw[ha (by omega),h2]
theorem H5{c:Array Value}{o sz:Nat}{xs:List AV}(hm:InMem pl M c o sz xs){i:Nat}{x:AV}(hx:xs[i]?=some x):o+i*sz+x.cells.length<=c.size:=by
 have h1:=hm.fit;have hi:=(fp.1 hx).1;have h2:=(hm.elem x (bh hx)).1;have h3:(i+1)*sz<=xs.length*sz:=eD _ hi;rw[jI]at h3;omega
theorem wR{ag:Bool}{n off:Nat}{o:Option AV}{v:AV}(e:zC ag n off o=some v):∃x,o=some x/\ux ag n x.cells off=some v:=by
 cases o with
 |none=>simp[zC]at e
 |some x=>exact⟨x,rfl,e⟩
theorem G0(hr:ct pl M h w){x:AV}{cx:Value}(hx:VRel pl M x cx){ag:Bool}{n:Nat}{ty:TypeId}(h1:cH P ty=some ag)(h2:cP P ty=some n)
  (e:Ay ag n h (some x)=some v):∃ad cv,cx=.pointer (some ad)/\(loadVar ty ad).run P w=.ok cv w/\VRel pl M v cv:=by
 unfold Ay at e;split at e
 ·rename_i id ep i off e0;simp at e0;subst e0;split at e
  ·rename_i sz op ep' xs hg;rw[ao]at e;by_cases he:ep=ep'
   ·simp[he]at e;obtain⟨y,e1,e2⟩:=wR e;rw[n9]at e1;have hx':=hx;cases hx with
    | ptr hp hle ha=>
     obtain⟨p,c,t,q1,q2,q3,q4,q5,q6,q7,q8,q9,q10⟩:=Qe hr hx' hg he;have hf:=H5 q10 e1;obtain⟨cv,k1,k2⟩:=uX (P:=P) (pl:=pl) (M:=M) q3 (o:=i*sz) (cs:=y.cells) (by omega) (fun j u hj=>by simpa using q10.cell i y j u e1 hj)
      (q10.elem y (bh e1)).2 h1 h2 e2
     exact⟨_,cv,rfl,by rw[q2];exact k1,k2⟩
   ·simp[he]at e
  ·simp at e
 ·rename_i xs i off e0;simp at e0;subst e0;obtain⟨y,e1,e2⟩:=wR e;rw[n9]at e1;cases hx with
  | pptr hm hs hi hc=>
   rename_i ad sz c;obtain⟨t,fr,hb⟩:=hr.imm _ _ hm.2.1;have hf:ad.off+i*sz+y.cells.length<=c.size:=by
    have h2:=(hs y (bh e1)).1;have h3:(i+1)*sz<=xs.length*sz:=eD _ hi;rw[jI]at h3;omega
   obtain⟨cv,k1,k2⟩:=uX (P:=P) (pl:=pl) (M:=M) hb (o:=ad.off+i*sz) (cs:=y.cells) hf (fun j u hj=>hc i y j u e1 hj)
    (hs y (bh e1)).2 h1 h2 e2
   exact⟨_,cv,rfl,k1,k2⟩
 ·simp at e
theorem Uo(t:TypeId)(x:Operand):iS P G (.load t x):=by
 intro pl M A h v h' a w dst ty pos after guard hg hr hf he;simp only[eT]at he;cases h1:cH P t with
 |none=>simp only[h1]at he;exact(aw he).elim
 | some ag=>
  cases h2:cP P t with
  |none=>simp only[h1,h2]at he;exact(aw he).elim
  | some n=>
   simp only[h1,h2]at he;obtain⟨u,e1,e2⟩:=bu he;simp at e2;obtain⟨rfl,rfl⟩:=e2;cases hx:(cj G x).run A with
   |none=>simp[hx,Ay]at e1
   |some xv=>
    rw[hx]at e1;obtain⟨ad,cv,k1,k2,k3⟩:=G0 (P:=P) hr (bZ hg hf hx) h1 h2 e1;simpa[execOp,Instr.loadAt,k1,Instr.sureAddr,k2]using qJ.pure hr k3
def over(c:Array Value)(o:Nat)(vs:List Value):Array Value:=(c.toList.take o++vs++c.toList.drop (o+vs.length)).toArray
theorem lW{c:Array Value}{o:Nat}{vs:List Value}(h:o+vs.length<=c.size):(over c o vs).size=c.size:=by simp[over];omega
theorem pK{c:Array Value}{o:Nat}{vs:List Value}(h:o+vs.length<=c.size){k:Nat}(hk:k<vs.length):(over c o vs).getD (o+k) undef=vs.getD k undef:=by
 simp only[over,gv,oY,jy];rw[oV (by simp;omega)];have e:o+k-(c.toList.take o).length=k:=by simp;omega
 rw[e,sK hk];simp
theorem je{c:Array Value}{o:Nat}{vs:List Value}(h:o+vs.length<=c.size){k:Nat}(hk:k<o\/o+vs.length<=k):(over c o vs).getD k undef=c.getD k undef:=by
 simp only[over,gv,oY,jy];have h1:(c.toList.take o).length=o:=by simp;omega
 rcases hk with hk|hk
 ·rw[sK (by omega),LX hk];simp
 ·rw[oV (by omega),oV (by omega),List.getElem?_drop];have e:o+vs.length+(k-(c.toList.take o).length -vs.length)=k:=by omega
  rw[e];simp
theorem CL{c:Array Value}{o:Nat}{v:Value}{r:List Value}(hl:o+(r.length+1)<=c.size):over (c.setIfInBounds o v) (o+1) r=over c o (v::r):=by
 apply Array.ext';simp only[over];have ho:o<c.toList.length:=by simp;omega
 have e1:(c.setIfInBounds o v).toList=c.toList.set o v:=by simp
 rw[e1];have e2:(c.toList.set o v).take (o+1)=c.toList.take o++[v]:=by
  rw[Pt (by simpa using ho)];simp[List.take_set_of_le]
 have e3:(c.toList.set o v).drop (o+1+r.length)=c.toList.drop (o+1+r.length):=by rw[List.drop_set_of_lt (by omega)]
 rw[e2,e3];simp[Nat.add_assoc,Nat.add_comm 1]
theorem n6(b:Nat)(t:TypeId)(fr:Nat×Nat):∀(vs:List Value)(o:Nat)(w:World)(c:Array Value),w.heap[b]?=some (.cells c t fr)->o+vs.length<=c.size->
  (w.setCells b o vs).heap[b]?=some (.cells (over c o vs) t fr)
 |[],o,w,c,hb,hl=>by
  simp only[World.setCells,over];rw[hb];simp
 | v::r,o,w,c,hb,hl=>by
  have h1:(w.setCell ⟨b,o,none⟩ v).heap[b]?=some (.cells (c.setIfInBounds o v) t fr):=by
   simp only[World.setCell,wo,hb];simp
  simp only[cM]at hl;rw[World.setCells,n6 b t fr r (o+1) _ _ h1 (by simp;omega),CL hl]
theorem mR(b b':Nat)(hne:b'≠b):∀(vs:List Value)(o:Nat)(w:World),(w.setCells b o vs).heap[b']?=w.heap[b']?
 |[],_,_=>rfl
 |v::r,o,w=>by
  rw[World.setCells,mR b b' hne r (o+1)];simp only[World.setCell,wo];rw[if_neg (fun e=>hne e.symm)]
theorem jd(b:Nat):∀(vs:List Value)(o:Nat)(w:World),(w.setCells b o vs).heap.size=w.heap.size
 |[],_,_=>rfl
 |v::r,o,w=>by rw[World.setCells,jd b r (o+1)];simp[World.setCell]
theorem n5(b:Nat):∀(vs:List Value)(o:Nat)(w:World),WSame w (w.setCells b o vs)
 |[],_,w=>WSame.refl w
 |v::r,o,w=>by
  have:=n5 b r (o+1) (w.setCell ⟨b,o,none⟩ v);exact⟨this.os,this.tape,this.out,this.drawn⟩
theorem pI{b o:Nat}{vs:List Value}{c:Array Value}{t:TypeId}(hb:w.heap[b]?=some (.cells c t (0,0)))(hl:o+vs.length<=c.size)(h1:∀u∈vs,u.oneCell'=true):
  (storeCells ⟨b,o,none⟩ vs).run P w=.ok () (w.setCells b o vs):=by
 have:=run_storeCells_cells (P:=P) b o vs 0 w (fun j hj=>by rw[nS hb (by omega)];rfl) (fun j hj=>by simp[World.frozen?,hb]) h1;simpa using this
theorem ct.store(hr:ct pl M h w){id:Nat}{p:Place}{sz ep:Nat}{op:Bool}{xs ys:List AV}{c:Array Value}{t:TypeId}{o:Nat}{vs:List Value}
  (hp:pl id=some p)(hg:h.get id=some (.row sz op ep xs))(hb:w.heap[p.blk]?=some (.cells c t (0,0)))(he:p.ep=ep)(hsz:p.sz=sz)(hn:p.n=xs.length)(htot:p.tot=c.size)(h0:0<sz)
  (hop:op=false->c.size=xs.length*sz)(hys:ys.length=xs.length)(hl:o+vs.length<=c.size)(hm:InMem pl M (over c o vs) 0 sz ys):
  ct pl M (h.put id (.row sz op ep ys)) (w.setCells p.blk o vs)/\cO h pl M w (h.put id (.row sz op ep ys)) pl M (w.setCells p.blk o vs):=by
 have e:=qw (pl:=pl) hp;have:=ct.change (o':=.row sz op ep ys) (w':=w.setCells p.blk o vs) hr hp hg (.inl rfl) (n5 _ _ _ _) (by rw[jd];exact af _) (fun b _ hb=>mR _ _ hb _ _ _) (.inl rfl)
  (by rw[jd];exact hr.blk id p hp) (by
   rw[n6 p.blk t (0,0) vs o w c hb hl,e];exact⟨he,hsz,by rw[hys];exact hn,by rw[lW hl];exact htot,rfl,h0,fun hh=>by rw[lW hl,hys];exact hop hh,hm⟩)
 rw[e]at this;exact this
theorem sj{cs new:List AV}{off:Nat}(hl:off+new.length<=cs.length):(o9 cs off new).length=cs.length:=by simp[o9];omega
theorem o8{cs new:List AV}{off:Nat}(hl:off+new.length<=cs.length){j:Nat}{y:AV}(hj:(o9 cs off new)[j]?=some y):
  (off<=j/\j<off+new.length/\new[j-off]?=some y)\/((j<off\/off+new.length<=j)/\cs[j]?=some y):=by
 have h1:(cs.take off).length=off:=by simp;omega
 simp only[o9,jy]at hj;by_cases ha:j<off
 ·rw[sK (by omega),LX ha]at hj;exact .inr ⟨.inl ha,hj⟩
 ·rw[oV (by omega),h1]at hj;by_cases hb:j<off+new.length
  ·rw[sK (by omega)]at hj;exact .inl ⟨by omega,hb,hj⟩
  ·rw[oV (by omega),List.getElem?_drop]at hj;have e:off+new.length+(j-off-new.length)=j:=by omega
   rw[e]at hj;exact .inr ⟨.inr (by omega),hj⟩
theorem Jg{x u y:AV}{off:Nat}(e:uK x off u=some y)(hsx:Sc x)(hsu:Sc u)(hfu:fZ u=true):
  off+u.cells.length<=x.cells.length/\y.cells.length=x.cells.length/\Sc y/\
   ∀j z,y.cells[j]?=some z->(off<=j/\j<off+u.cells.length/\u.cells[j-off]?=some z)\/((j<off\/off+u.cells.length<=j)/\x.cells[j]?=some z):=by
 unfold uK at e;split at e
 ·rename_i cs;rw[bU]at e;by_cases hl:off+u.cells.length<=cs.length
  ·simp[hl]at e;subst e;refine⟨hl,sj hl,fun z hz=>?_,fun j z hj=>o8 hl hj⟩;obtain⟨j,hj⟩:=FB.1 hz;rcases o8 hl hj with⟨_,_,k⟩|⟨_,k⟩
   ·exact hsu z (bh k)
   ·exact hsx z (bh k)
  ·simp[hl]at e
 ·simp at e
 ·rename_i h1 h2;have hcx:x.cells=[x]:=by cases x<;>first|rfl|exact absurd rfl (h1 _)
  split at e
  ·simp at e
  ·simp at e
  ·rename_i g1 g2;simp at e;subst e;have hcu:u.cells=[u]:=by cases u<;>first|rfl|exact absurd rfl (g1 _)
   refine⟨by simp[hcx,hcu],by simp[hcx,hcu],hsu,fun j z hj=>?_⟩;have hj0:j<u.cells.length:=(fp.1 hj).1;exact .inl ⟨by omega,by omega,by simpa using hj⟩
  ·simp at e
theorem wG{vs:Array Value}{k:Nat}:vs.toList.getD k undef=vs.getD k undef:=by simp[gv]
theorem InMem.put{c:Array Value}{sz i off:Nat}{xs:List AV}{y z:AV}{u:AV}{cu:Value}(hm:InMem pl M c 0 sz xs)(hy:xs[i]?=some y)(hu:VRel pl M u cu)
  (p1:off+u.cells.length<=y.cells.length)(p2:z.cells.length=y.cells.length)(p3:Sc z)
  (p4:∀j q,z.cells[j]?=some q->(off<=j/\j<off+u.cells.length/\u.cells[j-off]?=some q)\/((j<off\/off+u.cells.length<=j)/\y.cells[j]?=some q)):
  i*sz+off+cu.cells.toList.length<=c.size/\InMem pl M (over c (i*sz+off) cu.cells.toList) 0 sz (xs.set i z):=by
 have hyel:=hm.elem y (bh hy);have hfy:=H5 hm hy;have hcs:=hu.cells;have hcl:cu.cells.toList.length=u.cells.length:=by rw[hcs.len];simp
 have hlen:i*sz+off+cu.cells.toList.length<=c.size:=by rw[hcl];omega
 have hilt:i<xs.length:=(fp.1 hy).1;refine⟨hlen,by rw[lW hlen,kH];exact hm.fit,fun y' hy'=>?_,fun i' y' j' z' hi' hj'=>?_⟩
 ·obtain⟨k,hk⟩:=FB.1 hy';rw[Cv]at hk;by_cases hik:i=k
  ·subst hik;rw[if_pos rfl,if_pos hilt]at hk;simp at hk;subst hk;exact⟨by rw[p2];exact hyel.1,p3⟩
  ·rw[if_neg hik]at hk;exact hm.elem y' (bh hk)
 ·rw [Cv]at hi';by_cases hii:i=i'
  ·subst hii;rw[if_pos rfl,if_pos hilt]at hi';simp at hi';subst hi';rcases p4 j' z' hj' with⟨r1,r2,r3⟩|⟨r1,r2⟩
   ·have e5:0+i*sz+j'=(i*sz+off)+(j'-off):=by omega
    rw[e5,pK hlen (by omega),wG];exact hcs.at_ _ _ r3
   ·rw[je hlen (by omega)];exact hm.cell i y j' z' hy r2
  ·rw[if_neg hii]at hi';have hjl:j'<sz:=by
    have:=(fp.1 hj').1;rw[(hm.elem y' (bh hi')).1]at this;exact this
   have:0+i'*sz+j'<i*sz+off\/i*sz+off+cu.cells.toList.length<=0+i'*sz+j':=by
    rcases fm i' i with hlt|hge
    ·have:=eD sz hlt;rw[qz]at this;left;omega
    ·have h9:i+1<=i':=by omega
     have:=eD sz h9;rw[jI]at this;right;rw[hcl];omega
   rw[je hlen this];exact hm.cell i' y' j' z' hi' hj'
theorem NC(hr:ct pl M h w){x u:AV}{cx cu:Value}(hx:VRel pl M x cx)(hu:VRel pl M u cu){n:Nat}{ty:TypeId}(h2:cP P ty=some n)
  (e:sC n h (some x) (some u)=some h'):∃w',(Instr.storeAt ty cx cu).run P w=.ok () w'/\ct pl M h' w'/\cO h pl M w h' pl M w'/\h'.n=h.n:=by
 unfold sC at e;split at e
 ·rename_i id ep i off u' e0 e1;simp at e0 e1;subst e0;subst e1;split at e
  ·rename_i sz op ep' xs hg;rw[ao,ao]at e;by_cases he:ep=ep'
   ·by_cases hn:u.cells.length=n
    ·by_cases hfl:fZ u=true
     ·simp[he,hn,hfl]at e;rw[n9]at e;cases hxi:xs[i]? with
      |none=>simp[hxi]at e
      | some y=>
       simp[hxi]at e;cases hpe:uK y off u with
       |none=>simp[hpe]at e
       | some z=>
        simp[hpe]at e;have hx':=hx;cases hx with
        |ptr hp hle ha=>
         obtain⟨p,c,t,q1,q2,q3,q4,q5,q6,q7,q8,q9,q10⟩:=Qe hr hx' hg he;have hsu:=hu.sc hfl;have hyel:=q10.elem y (bh hxi);obtain⟨p1,p2,p3,p4⟩:=Jg hpe hyel.2 hsu hfl;obtain⟨hlen,hmem⟩:=q10.put hxi hu p1 p2 p3 p4;have hcs:=hu.cells;have hst:=pI (P:=P) (w:=w) q3 hlen (hcs.one hsu);obtain⟨r1,r2⟩:=ct.store (ys:=xs.set i z) hr q1 hg q3 (by omega) q5 q6 q7 q8 q9 (by simp) hlen hmem;refine⟨_,?_,by rw[<-e];exact r1,by rw[<-e];exact r2,by rw[<-e];rfl⟩;have hcn:cu.cells.size=n:=by rw[<-hn,hcs.len]
         rw[q2];simp[Instr.storeAt,Instr.sureAddr,storeVar,cF h2,hcn,hst]
     ·simp[hfl]at e
    ·simp[hn]at e
   ·simp[he]at e
  ·simp at e
 ·simp at e
theorem QN(t:TypeId)(x y:Operand):iS P G (.store t x y):=by
 intro pl M A h v h' a w dst ty pos after guard hg hr hf he;simp only[eT]at he;cases h2:cP P t with
 |none=>simp only[h2]at he;exact(aw he).elim
 | some n=>
  simp only[h2]at he;cases hx:(cj G x).run A with
  |none=>simp[hx,sC,vD]at he
  | some xv=>
   cases hy:(cj G y).run A with
   |none=>simp[hx,hy,sC,vD]at he
   | some yv=>
    simp only[hx,hy]at he;cases hs:sC n h (some xv) (some yv)with
    |none=>simp[hs,vD]at he
    |some h1=>
     simp[hs,vD]at he;obtain⟨rfl,rfl⟩:=he;obtain⟨w',k1,k2,k3,k4⟩:=NC (P:=P) hr (bZ hg hf hx) (bZ hg hf hy) h2 hs;exact⟨pl,M,undef,w',.skip,by simp[execOp,k1],.inr ⟨rfl,rfl⟩,.tuple rfl (fun j y h=>by simp at h),k2,k3,by omega⟩
end
section
variable{P:Program}{G:eB}{pl:Pl}{M:dl}{h h':AHeap}{w w':World}{v:AV}{A:Fr}{a:Act}
theorem g9{x:AV}{cx:Value}{n:Nat}(hx:VRel pl M x cx)(e:fP x=some n):∃k,cx=.int k (n:Int):=by
 obtain⟨k,rfl⟩:=JB e;cases hx
 simp_all
theorem ze{s id ep:Nat}{xs:List AV}(e:qh s h id ep=some xs):∃op,h.get id=some (.row s op ep xs):=by grind[qh,ao]
theorem mM(hr:ct pl M h w){id ep off len sz:Nat}{cap:Option Nat}{op:Bool}{xs:List AV}{cx:Value}(hx:VRel pl M (.slice id ep off len cap) cx)
  (hg:h.get id=some (.row sz op ep xs)):∃p c t ad cap',pl id=some p/\cx=.slice (some ad) len cap'/\w.heap[p.blk]?=some (.cells c t (0,0))/\
   p.ep=ep/\p.sz=sz/\p.n=xs.length/\p.tot=c.size/\0<sz/\(op=false->c.size=xs.length*sz)/\InMem pl M c 0 sz xs/\
   len<=cap'/\(∀k,cap=some k->cap'=k)/\(cap'=0\/ad=⟨p.blk,off*sz,none⟩)/\(off+cap')*sz<=c.size/\off+len<=xs.length/\(cap=none->xs.length<=off+cap')/\(∀k,cap=some k->off+k<=xs.length):=by
 cases hx with
 | slice hp hle hl hk ha=>
  rename_i cap' ad p;have ho:=hr.obj id p _ hp hg;cases hb:w.heap[p.blk]? with
  |none=>grind[bb]
  |some ob=>
   rw[hb]at ho;cases ob<;>simp only[bb]at ho
   grind
theorem HY{n s:Nat}{x ix v:AV}{cx ci:Value}(hx:VRel pl M x cx)(hi:VRel pl M ix ci){t e:TypeId}(ht:P.underlying t=some (.array n e))(hs:cP P e=some s)
  (he:og n s (some x) (some ix)=some v)(w:World):∃ad,(Instr.indexAt t cx ci).run P w=.ok (.pointer (some ad)) w/\VRel pl M v (.pointer (some ad)):=by
 simp only[og]at he;cases hn:fP ix with
 |none=>simp_all
 |some i=>
  rw[hn]at he;simp only[dm]at he;by_cases hlt:i<n
  ·simp[hlt]at he;obtain⟨k,rfl⟩:=g9 hi hn;obtain⟨ad,rfl,k2⟩:=CO he hx;refine⟨_,?_,k2⟩;simp[Instr.indexAt,asIntOf,run_underlying ht,Instr.sureAddr,cF hs,hlt]
  simp_all
theorem tJ(hr:ct pl M h w){s:Nat}{x ix v:AV}{cx ci:Value}(hx:VRel pl M x cx)(hi:VRel pl M ix ci){t e:TypeId}(ht:P.underlying t=some (.slice e))(hs:cP P e=some s)
  (he:jp s h (some x) (some ix)=some v):∃ad,(Instr.indexAt t cx ci).run P w=.ok (.pointer (some ad)) w/\VRel pl M v (.pointer (some ad)):=by
 unfold jp at he;split at he
 ·rename_i id ep off len cap ix' e0 e1;simp at e0 e1;subst e0;subst e1;split at he
  ·rename_i i xs hn hrow;rw[dm]at he;by_cases hlt:i<len
   ·simp[hlt]at he;subst he;obtain⟨op,hg⟩:=ze hrow;obtain⟨k,rfl⟩:=g9 hi hn;obtain⟨p,c,t',ad,cap',q1,rfl,q3,q4,q5,q6,q7,q8,q9,q10,q11,q12,q13,q14,q15,q16,q17⟩:=mM hr hx hg;have had:ad=⟨p.blk,off*s,none⟩:=by grind
    subst had;refine⟨⟨p.blk,off*s+i*s,none⟩,?_,.ptr q1 (by omega) fun _=>?_⟩
    ·simp[Instr.indexAt,asIntOf,run_underlying ht,cF hs,hlt,Addr.add_lit]
    grind
   simp_all
  simp_all
 ·rename_i xs tight ix' e0 e1;simp at e0 e1;subst e0;subst e1;split at he
  ·rename_i i hn;rw[n9]at he;cases hxi:xs[i]? with
   |none=>simp_all
   | some y=>
    rw[hxi]at he;simp only[ao]at he;by_cases hy:y.cells.length=s
    ·simp[hy]at he;subst he;obtain⟨k,rfl⟩:=g9 hi hn;have hilt:i<xs.length:=(fp.1 hxi).1;cases hx with
     |ps hl htt hm hs2 hc=>
      rename_i ad cap sz c;have hne:xs≠[]:=by grind
      have hsz:sz=s:=by grind
      subst hsz;obtain⟨hspot,hm2⟩:=hm hne;refine⟨⟨ad.block,ad.off+i*sz+0,none⟩,?_,.pptr ⟨hspot,hm2⟩ hs2 hilt hc⟩;have had:ad=⟨ad.block,ad.off,none⟩:=by cases ad;simp_all
      rw[had];simp[Instr.indexAt,asIntOf,run_underlying ht,cF hs,hilt,Addr.add_lit]
    simp_all
  simp_all
 simp_all
theorem HU(hr:ct pl M h w){s:Nat}{x ix v:AV}{cx ci:Value}(hx:VRel pl M x cx)(hi:VRel pl M ix ci){t e:TypeId}(ht:P.underlying t=some (.slice e))(hs:cP P e=some s)
  (he:lF s h (some x) (some ix)=some v):∃ad,(Instr.indexAt t cx ci).run P w=.ok (.pointer (some ad)) w/\VRel pl M v (.pointer (some ad)):=by
 unfold lF at he;split at he
 ·rename_i xs e0;simp at e0;subst e0;cases hx with
  |lsn=>grind[jp,jo]
  |lsp hx _=>grind[tJ]
 ·rename_i q;cases q
  cases hx with
  |sl0s hx=>grind[tJ]
  |sl0n hx=>
   unfold jp at he;simp only at he;split at he
   ·cases(he:(none:Option AV)=some v)
   ·grind
 grind[tJ]
theorem Ed(t:TypeId)(x i:Operand):iS P G (.indexAddr t x i):=by
 intro pl M A h v h' a w dst ty pos after guard hg hr hf he;simp only[eT]at he;cases hu:P.underlying t with
 |none=>grind[aw]
 | some d=>
  rw[hu]at he;cases d<;>try exact(aw he).elim
  case array n e=>
   cases hs:cP P e with
   |none=>grind[aw]
   | some s=>
    cases s with
    |zero=>grind[aw]
    | succ s=>
     simp only[hs]at he;obtain⟨u,e1,e2⟩:=bu he;simp at e2;obtain⟨rfl,rfl⟩:=e2;cases hx:(cj G x).run A with
     | none=>
      cases hi:(cj G i).run A with
      |none=>grind[og]
      |some iv=>
       simp only[hx,hi,og,offset]at e1;split at e1<;>(try split at e1)<;>simp at e1
     | some xv=>
      cases hi:(cj G i).run A with
      |none=>grind[og]
      |some iv=>
       rw[hx,hi]at e1;obtain⟨ad,k1,k2⟩:=HY (P:=P) (bZ hg hf hx) (bZ hg hf hi) hu hs e1 w;simp_all[execOp,qJ.pure]
  case slice e=>
   cases hs:cP P e with
   |none=>grind[aw]
   | some s=>
    cases s with
    |zero=>grind[aw]
    | succ s=>
     simp only[hs]at he;obtain⟨u,e1,e2⟩:=bu he;simp at e2;obtain⟨rfl,rfl⟩:=e2;cases hx:(cj G x).run A with
     |none=>grind[lF,jp]
     | some xv=>
      cases hi:(cj G i).run A with
      |none=>rw[hx,hi]at e1;cases xv<;>simp[lF,jp]at e1
      |some iv=>
       rw[hx,hi]at e1;obtain⟨ad,k1,k2⟩:=HU (P:=P) hr (bZ hg hf hx) (bZ hg hf hi) hu hs e1;simp_all[execOp,qJ.pure]
theorem QR(t:TypeId)(x i:Operand):iS P G (.index t x i):=by
 intro pl M A h v h' a w dst ty pos after guard hg hr hf he;simp only[eT]at he;cases hu:P.underlying t with
 |none=>grind[aw]
 | some d=>
  rw[hu]at he;cases d<;>try exact(aw he).elim
  case array n e=>
   cases h1:cH P e with
   |none=>grind[aw]
   | some ag=>
    cases h2:cP P e with
    |none=>grind[aw]
    | some s=>
     simp only[h1,h2]at he;obtain⟨u,e1,e2⟩:=bu he;simp at e2;obtain⟨rfl,rfl⟩:=e2;cases hx:(cj G x).run A with
     |none=>grind[Iu]
     | some xv=>
      cases hi:(cj G i).run A with
      |none=>grind[Iu]
      | some iv=>
       have hxv:=bZ hg hf hx;have hiv:=bZ hg hf hi;rw[hx,hi]at e1;cases xv<;>simp[Iu]at e1
       rename_i cs;cases hn:fP iv with
       |none=>simp_all
       | some k=>
        rw[hn]at e1;simp only[dm]at e1;by_cases hlt:k<n
        ·simp[hlt]at e1;obtain⟨kd,hci⟩:=g9 hiv hn;generalize hq:a.eval x=cx at hxv;cases hxv with
         |agg g1 g2 g3=>
          obtain⟨cv,k1,k2⟩:=Gb (P:=P) ⟨g1,g3⟩ g2 h1 h2 e1;simp_all[execOp,Instr.index,asIntOf,run_underlying,cF,qJ.pure]
        simp_all
  case string=>
   obtain⟨u,e1,e2⟩:=bu he;simp at e2;obtain⟨rfl,rfl⟩:=e2;cases hx:(cj G x).run A with
   |none=>grind[Is]
   | some xv=>
    cases hi:(cj G i).run A with
    |none=>grind[Is]
    | some iv=>
     have hxv:=bZ hg hf hx;have hiv:=bZ hg hf hi;rw[hx,hi]at e1;cases xv<;>simp[Is]at e1
     rename_i s;cases hn:fP iv with
     |none=>simp_all
     | some k=>
      rw[hn]at e1;simp only[n9]at e1;cases hsk:s[k]? with
      |none=>simp_all
      | some b=>
       simp[hsk]at e1;subst e1;obtain⟨kd,hci⟩:=g9 hiv hn;generalize hq:a.eval x=cx at hxv;cases hxv
       have hg2:(⟨⟨s⟩⟩:ByteArray)[k]?=some b:=by
        obtain⟨hlt,hb⟩:=fp.1 hsk;have hlt2:k<(⟨⟨s⟩⟩:ByteArray).size:=hlt;rw[getElem?_pos (⟨⟨s⟩⟩:ByteArray) k hlt2];exact congrArg some hb
       have hv:VRel pl M (.int .u8 (b.toNat:Int)) (.int .u8 (b.toNat:Int)):=.int _ _;simp_all[execOp,Instr.index,asIntOf,run_underlying,qJ.pure]
end
end Go.Ev
