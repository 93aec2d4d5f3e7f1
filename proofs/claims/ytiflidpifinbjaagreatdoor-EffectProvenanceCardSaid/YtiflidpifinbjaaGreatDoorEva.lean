/- The seat's machine: what package-level variables hold; that the machine's answers are the model's. -/
import Derived.Test.YtiflidpifinbjaaGreatDoorRows
import Derived.Test.YtiflidpifinbjaaGreatDoorMach7
namespace Go.Proofs.YtiflidpifinbjaaGreatDoor
open Go Go.Ev
noncomputable def Nt:AV:=.agg [.int .u8 128,.int .u8 191,.int .u8 160,.int .u8 191,.int .u8 128,.int .u8 159,.int .u8 144,.int .u8 191,.int .u8 128,.int .u8 143,
  .int .u8 0,.int .u8 0,.int .u8 0,.int .u8 0,.int .u8 0,.int .u8 0,.int .u8 0,.int .u8 0,.int .u8 0,.int .u8 0,.int .u8 0,.int .u8 0,.int .u8 0,.int .u8 0,.int .u8 0,.int .u8 0,.int .u8 0,.int .u8 0,.int .u8 0,.int .u8 0,.int .u8 0,.int .u8 0]
noncomputable def So:AV:=.agg [.str [98,111,111,107],.str [112,97,114,116],.str [115,101,99,116,105,111,110],.str [112,97,114,97,103,114,97,112,104],.str [116,97,98,108,101],.str [114,111,119],.str [99,101,108,108],.str [110,111,116,101]]
noncomputable def Sr:AV:=.agg [.ps [.int .i64 1,.int .i64 2] false,.ps [.int .i64 2] false,.ps [.int .i64 3,.int .i64 4,.int .i64 7] false,.ps [.int .i64 3,.int .i64 4,.int .i64 7] false,.ps [.int .i64 5] false,.ps [.int .i64 6] false,.nils,.nils]
noncomputable def pG:AV:=.agg [.func (.func 344) [] [],.func (.func 345) [] []]
noncomputable def Sp:AV:=.agg [.str [105,110,115,101,114,116],.str [114,101,112,101,97,108],.str [119,111,114,100,115],.str [112,117,116],.str [104,101,97,100,105,110,103],.str [114,101,108,97,98,101,108],.str [109,111,118,101],.str [99,111,109,109,101,110,99,101],.str [101,120,112,105,114,101],.str [114,101,118,105,118,101],.str [104,97,112,112,101,110],.str [99,111,114,114,101,99,116]]
noncomputable def gl:List (Nat×AV):=[(7,Nt),(8,So),(3,Sr),(1,pG),(0,Sp)]
noncomputable abbrev G:fz:=K6 gl
theorem gM:jK G:=Fj (by kernel_rfl)
theorem Rs:Xa Tryz.prog:=λf fn h=>by
  have key:(Tryz.prog.funcs.all λfn=> !(fn.name== "runtime.NumGoroutine"))=true:=by kernel_rfl
  have:=Array.all_eq_true_iff_forall_mem.1 key fn (Array.mem_of_getElem? h)
  simpa using this
theorem na:Tryz.prog.follows .mixedOrders=true:=by kernel_rfl
noncomputable def ab7:laf:=[107,131,217,221,224,276]
noncomputable def keeps:laf:=[70]
noncomputable def pol(f:FuncId):Nat:=match ja f ab7 with|true=>1|false=>(match ja f keeps with|true=>2|false=>0)
noncomputable def C:Cfg:={P:=Tryz.prog,G:=G,pol:=pol,rounds:=100000}
theorem ev(k:Nat):cW Tryz.prog G (fF C k):=Ij (C:=C) Rs na (λ_ _ _ _ _ h=>by simp[C]at h) k
noncomputable def GM:Option (AV×AHeap)->Bool
  |some (.bool true,_)=>true
  |_=>false
theorem closed{f:FuncId}(k:Nat)(h:GM (fF C k f [] AHeap.none)=true):aP Tryz.prog G f [] (.bool true):=by
  cases hx:fF C k f [] AHeap.none with
  |none=>rw[hx]at h;cases h
  | some r=>
    obtain⟨v,h1⟩:=r
    rw[hx]at h
    have e:v=.bool true:=by
      unfold GM at h
      split at h
      · rename_i q;cases q;rfl
      · cases h
    subst e
    exact lg gM rfl rfl ((aO.of (ev k) hx).mono λv1 _ e=>e.1)
theorem oN(n:Nat):Int.ofNat n=(n:Int):=rfl
theorem lM{α β:Type}{f:α->β}{l:List α}:(l.map f).length=l.length:=cw ..
theorem lS{α:Type}{l:List α}{i:Nat}{a:α}:(l.set i a).length=l.length:=lQ ..
theorem lA{α:Type}{l m:List α}:(l++m).length=l.length+m.length:=eA ..
theorem lC{α:Type}{a:α}{l:List α}:(a::l).length=l.length+1:=rfl
theorem lN{α:Type}:([]:List α).length=0:=rfl
theorem lR{α:Type}{n:Nat}{a:α}:(List.replicate n a).length=n:=qA ..
abbrev iA(x:Int):AV:=.int .i64 x
abbrev nA(n:Nat):AV:=.int .i64 (.ofNat n)
theorem cL{p0 p1 p2:Prop}(h0:p0)(h1:p1)(h2:p2):p0/\p1/\p2:=⟨h0,h1,h2⟩
theorem jp{p0 p1 p2 p3:Prop}(h0:p0)(h1:p1)(h2:p2)(h3:p3):p0/\p1/\p2/\p3:=⟨h0,h1,h2,h3⟩
theorem qh{p0 p1 p2 p3 p4:Prop}(h0:p0)(h1:p1)(h2:p2)(h3:p3)(h4:p4):p0/\p1/\p2/\p3/\p4:=⟨h0,h1,h2,h3,h4⟩
theorem od{p0 p1 p2 p3 p4 p5:Prop}(h0:p0)(h1:p1)(h2:p2)(h3:p3)(h4:p4)(h5:p5):p0/\p1/\p2/\p3/\p4/\p5:=⟨h0,h1,h2,h3,h4,h5⟩
theorem Ik{p0 p1 p2 p3 p4 p5 p6:Prop}(h0:p0)(h1:p1)(h2:p2)(h3:p3)(h4:p4)(h5:p5)(h6:p6):p0/\p1/\p2/\p3/\p4/\p5/\p6:=⟨h0,h1,h2,h3,h4,h5,h6⟩
theorem et8{p0 p1 p2 p3 p4 p5 p6 p7:Prop}(h0:p0)(h1:p1)(h2:p2)(h3:p3)(h4:p4)(h5:p5)(h6:p6)(h7:p7):p0/\p1/\p2/\p3/\p4/\p5/\p6/\p7:=⟨h0,h1,h2,h3,h4,h5,h6,h7⟩
theorem et9{p0 p1 p2 p3 p4 p5 p6 p7 p8:Prop}(h0:p0)(h1:p1)(h2:p2)(h3:p3)(h4:p4)(h5:p5)(h6:p6)(h7:p7)(h8:p8):p0/\p1/\p2/\p3/\p4/\p5/\p6/\p7/\p8:=⟨h0,h1,h2,h3,h4,h5,h6,h7,h8⟩
theorem Iw{p0 p1 p2 p3 p4 p5 p6 p7 p8 p9:Prop}(h0:p0)(h1:p1)(h2:p2)(h3:p3)(h4:p4)(h5:p5)(h6:p6)(h7:p7)(h8:p8)(h9:p9):p0/\p1/\p2/\p3/\p4/\p5/\p6/\p7/\p8/\p9:=⟨h0,h1,h2,h3,h4,h5,h6,h7,h8,h9⟩
theorem ZY{p0 p1 p2 p3 p4 p5 p6 p7 p8 p9 p10 p11:Prop}(h0:p0)(h1:p1)(h2:p2)(h3:p3)(h4:p4)(h5:p5)(h6:p6)(h7:p7)(h8:p8)(h9:p9)(h10:p10)(h11:p11):p0/\p1/\p2/\p3/\p4/\p5/\p6/\p7/\p8/\p9/\p10/\p11:=⟨h0,h1,h2,h3,h4,h5,h6,h7,h8,h9,h10,h11⟩
theorem rt:true=true:=rfl
theorem ti:True:=True.intro
theorem fu{p:Prop}(h:p:=by first|omega|(simp only[oN,lM,lS]at *;omega)|(simp only[oN,lM,lS,eA,lR,lC,lN]at * <;>omega)):p:=h
abbrev iV(x:Int):AV:=.int .i64 x
abbrev nV(n:Nat):AV:=.int .i64 (.ofNat n)
abbrev kP:=aP Tryz.prog G
abbrev kC:=aO Tryz.prog G
abbrev kD(f:FuncId)(a:laa)(h:AHeap)(r:AV)(k:AHeap):Prop:=aO Tryz.prog G f a h λv h=>v=r/\h=k
def Pf(_:D)(W:Prop):Prop:=W
theorem Mw(d:D){W:Prop}(p:W):Pf d W:=p
section
variable{d a b:D}{W V A B E:Prop}{x y:laa}{u w:AV}{h k:AHeap}{Q:Program}{J:fz}{g:FuncId}{i:Nat}
theorem Mf(p:W):Pf .fin W:=p
theorem Mg(n:Nat)(p:Pf d W):Pf (.go n d) W:=p
theorem Mp(q:aP Q J g x u)(p:Pf d W):Pf (.pure u d) (aP Q J g x u/\W):=⟨q,p⟩
theorem Me(q:aO Q J g x h λv1 h1=>v1=u/\h1=k)(p:Pf d W):Pf (.efd u k d) ((aO Q J g x h λv1 h1=>v1=u/\h1=k)/\W):=⟨q,p⟩
theorem Ml(t:Nat)(q:Le u w)(p:Pf d W):Pf (.le t u d) (Le u w/\W):=⟨q,p⟩
theorem Ma(q:Le u w)(p:Pf d W):Pf (.asl u d) (Le u w/\W):=⟨q,p⟩
theorem Mx(q:jI x i=some u)(p:Pf d W):Pf (.elem u d) (jI x i=some u/\W):=⟨q,p⟩
theorem Mr(q:A/\jI x i=some u)(p:Pf d W):Pf (.rld u d) ((A/\jI x i=some u)/\W):=⟨q,p⟩
theorem Mv{l:lay}(q:l=some (.val u h))(p:Pf d W):Pf (.val u d) (l=some (.val u h)/\W):=⟨q,p⟩
theorem Mo{l:lay}(q:l=some (.val u h))(p:Pf d W):Pf (.opv u h d) (l=some (.val u h)/\W):=⟨q,p⟩
theorem Md{l:lay}(e:A)(f:B)(q:l=some (.val u h))(p:Pf d W):Pf (.opv u h d) (A/\B/\l=some (.val u h)/\W):=⟨e,f,q,p⟩
theorem Mt(q:A)(p:Pf d W):Pf (.tt d) (A/\W):=⟨q,p⟩
theorem Mh(q:A)(p:Pf d W):Pf (.ff d) (A/\W):=⟨q,p⟩
theorem Mb(X:Bool)(f:X=true->Pf a V)(g:X=false->Pf b W):Pf (.br a b) ((X=true->V)/\(X=false->W)):=⟨f,g⟩
theorem Mn(X:Bool)(f:X=false->Pf a V)(g:X=true->Pf b W):Pf (.br a b) ((ak X=true->V)/\(ak X=false->W)):=⟨λz=>f (uP z),λz=>g (uR z)⟩
theorem Ms(X:Bool)(f:X=true->Pf a V)(g:X=false->Pf b W):Pf (.bs X a b) ((X=true->V)/\(X=false->W)):=⟨f,g⟩
theorem M1(c:D->D)(q:A)(p:Pf d W):Pf (c d) (A/\W):=⟨q,p⟩
theorem M2(c:D->D)(q:A)(r:B)(p:Pf d W):Pf (c d) (A/\B/\W):=⟨q,r,p⟩
theorem M3(c:D->D)(q:A)(r:B)(s:E)(p:Pf d W):Pf (c d) (A/\B/\E/\W):=⟨q,r,s,p⟩
end
theorem M0(c:D->D){d:D}{W:Prop}(p:Pf d W):Pf (c d) W:=p
theorem Mz(t:Nat){l:laa}{a b:D}{V W:Prop}(f:l=[]->Pf a V)(p:Pf b W):Pf (.nz t a b) ((l=[]->V)/\W):=⟨f,p⟩
theorem Mq{Q:Program}{J:fz}{g:FuncId}{x:laa}{h:AHeap}{Y:Type}{r:Y->AV}{k:Y->AHeap}{I:Y->Prop}{d:Y->D}{W:Y->Prop}(q:aO Q J g x h λv1 h1=>∃y,I y/\v1=r y/\h1=k y)(p:∀y,I y->Pf (d y) (W y)):Pf (.eff Y r k I d) ((aO Q J g x h λv1 h1=>∃y,I y/\v1=r y/\h1=k y)/\∀y,I y->W y):=⟨q,p⟩
theorem Mj(X:Type)(ts:laf)(S:X->laa×lai)(I:X->Prop){d:D}{e:X->D}{V:Prop}{W:X->Prop}(p:(∀y,I y->∃z,I z/\S y=S z)->Pf d V)(f:∀x,I x->Pf (e x) (W x)):Pf (.join X ts S I d e) (V/\∀x,I x->W x):=⟨p λy h=>⟨y,h,rfl⟩,f⟩
theorem ML(X:Type)(ts:laf)(S:X->laa×lai)(I:X->Prop)(m:X->Nat)(x0:X){A B:Prop}{W:X->Prop}{d:X->D}(q:A)(r:B)(f:∀x,I x->(∀y,I y->m y<m x->Nx I m S x (S y))->Pf (d x) (W x)):Pf (.loop X ts S I m x0 d) (A/\B/\∀x,I x->W x):=⟨q,r,λx h=>f x h λy a b=>⟨y,a,b,rfl⟩⟩
theorem MM(X Y:Type)(ts:laf)(S:X->laa×lai)(T:Y->laa×lai)(I:X->Prop)(J:Y->Prop)(m:X->Nat)(n:Y->Nat)(x0:X ⊕ Y){A B:Prop}{W:X->Prop}{V:Y->Prop}{d:X->D}{e:Y->D}(q:A)(r:B)(f:∀x,I x->(∀y,Sum.elim I J y->Sum.elim m n y<Sum.elim m n (.inl x)->Nx (Sum.elim I J) (Sum.elim m n) (Sum.elim S T) (.inl x) (Sum.elim S T y))->Pf (d x) (W x))(g:∀x,J x->(∀y,Sum.elim I J y->Sum.elim m n y<Sum.elim m n (.inr x)->Nx (Sum.elim I J) (Sum.elim m n) (Sum.elim S T) (.inr x) (Sum.elim S T y))->Pf (e x) (V x)):Pf (.loop2 X Y ts S T I J m n x0 d e) (A/\B/\(∀x,I x->W x)/\∀x,J x->V x):=⟨q,r,λx h=>f x h λy a b=>⟨y,a,b,rfl⟩,λx h=>g x h λy a b=>⟨y,a,b,rfl⟩⟩
theorem Mc{T:Type}(l:List T){a:D}{b:T->List T->D}{V:Prop}{W:T->List T->Prop}(f:l=[]->Pf a V)(g:∀w r,l=w::r->Pf (b w r) (W w r)):Pf (.cs T l a b) ((l=[]->V)/\∀w r,l=w::r->W w r):=⟨f,g⟩
theorem Mi{T A:Type}{l:List T}{x:Nat×List T×A}(J:List T->A->Prop)(e:T->AV)(h:l.drop x.1=x.2.1/\J x.2.1 x.2.2){a:D}{b:T->List T->D}{V:Prop}{W:T->List T->Prop}(f:x.2.1=[]->aE (.ofNat x.1) (.ofNat l.length)=false->J [] x.2.2->Pf a V)(g:∀w r,x.2.1=w::r->aE (.ofNat x.1) (.ofNat l.length)=true->Int.ofNat x.1<Int.ofNat l.length->jI (l.map e) x.1=some (e w)->J (w::r) x.2.2->Pf (b w r) (W w r)):Pf (.cs T x.2.1 a b) ((x.2.1=[]->V)/\∀w r,x.2.1=w::r->W w r):=⟨λq=>f q (dm h.1 q) (eM (J:=J) q h.2),λw r q=>g w r q (dI h.1 q) (ap (dI h.1 q)) (dl h.1 q) (bT (J:=J) q h.2)⟩
section
variable{d a b:D}{W V A:Prop}{x y:laa}{u w:AV}{h k:AHeap}{Q:Program}{J:fz}{g:FuncId}{i:Nat}(n:Nat)
theorem Kf(p:W):Pf (.go n .fin) W:=p
theorem Ky{s t:Bool}(p:s=t):Pf (.go n .fin) (Le (.bool s) (.bool t)):=Le.bool p
theorem Kp(q:aP Q J g x u)(p:Pf d W):Pf (.go n (.pure u d)) (aP Q J g x u/\W):=⟨q,p⟩
theorem Ke(q:aO Q J g x h λv1 h1=>v1=u/\h1=k)(p:Pf d W):Pf (.go n (.efd u k d)) ((aO Q J g x h λv1 h1=>v1=u/\h1=k)/\W):=⟨q,p⟩
theorem Kl(t:Nat)(q:Le u w)(p:Pf d W):Pf (.go n (.le t u d)) (Le u w/\W):=⟨q,p⟩
theorem Kx(q:jI x i=some u)(p:Pf d W):Pf (.go n (.elem u d)) (jI x i=some u/\W):=⟨q,p⟩
theorem Kr(q:A/\jI x i=some u)(p:Pf d W):Pf (.go n (.rld u d)) ((A/\jI x i=some u)/\W):=⟨q,p⟩
theorem Kv{l:lay}(q:l=some (.val u h))(p:Pf d W):Pf (.go n (.val u d)) (l=some (.val u h)/\W):=⟨q,p⟩
theorem Ko{l:lay}(q:l=some (.val u h))(p:Pf d W):Pf (.go n (.opv u h d)) (l=some (.val u h)/\W):=⟨q,p⟩
theorem Kt(q:A)(p:Pf d W):Pf (.go n (.tt d)) (A/\W):=⟨q,p⟩
theorem Kh(q:A)(p:Pf d W):Pf (.go n (.ff d)) (A/\W):=⟨q,p⟩
theorem Kb(X:Bool)(f:X=true->Pf a V)(g:X=false->Pf b W):Pf (.go n (.br a b)) ((X=true->V)/\(X=false->W)):=⟨f,g⟩
theorem Kn(X:Bool)(f:X=false->Pf a V)(g:X=true->Pf b W):Pf (.go n (.br a b)) ((ak X=true->V)/\(ak X=false->W)):=Mn X f g
theorem Ks(X:Bool)(f:X=true->Pf a V)(g:X=false->Pf b W):Pf (.go n (.bs X a b)) ((X=true->V)/\(X=false->W)):=⟨f,g⟩
theorem K1(c:D->D)(q:A)(p:Pf d W):Pf (.go n (c d)) (A/\W):=⟨q,p⟩
end
variable{f:FuncId}{fn:Func}{c:Code}{args:laa}{v r:AV}{W:Prop}{hp H:AHeap}{Ψ:AV->AHeap->Prop}
theorem wk(hf:Tryz.prog.funcs[f]?=some fn)(d:D)(p:W)(ht:az args=0:=by kernel_rfl)(hv:v.top=0:=by kernel_rfl)(hN:(fn.name== "runtime.NumGoroutine")=false:=by kernel_rfl)(hb:fn.body=some c:=by rfl)(hn:Nat.ble args.length fn.ntmps=true/\Nat.ble fn.ntmps 60000=true:=by exact⟨by kernel_rfl,by kernel_rfl⟩)(e:W=(WP Tryz.prog G (fF C 40) 0 c).run d ⟨⟨fn.ntmps,ib fn.ntmps args 0 .nil⟩,AHeap.none⟩ (Fv Tryz.prog 0 fn.results.toList λu h=>Le v (gJ 0 0 u h).1):=by kernel_rfl):aP Tryz.prog G f args v:=aP.walk na gM (ev 40) ht hv hf hN hb hn d p e
theorem wcq(hf:Tryz.prog.funcs[f]?=some fn)(d:D)(p:(r=r/\H=H)->W)(hN:(fn.name== "runtime.NumGoroutine")=false:=by kernel_rfl)(hb:fn.body=some c:=by rfl)(hn:Nat.ble args.length fn.ntmps=true/\Nat.ble fn.ntmps 60000=true:=by exact⟨by kernel_rfl,by kernel_rfl⟩)(e:W=(WP Tryz.prog G (fF C 40) hp.n c).run d ⟨⟨fn.ntmps,ib fn.ntmps args 0 .nil⟩,hp⟩ (Fv Tryz.prog hp.n fn.results.toList λv h=>(gJ 2 hp.n v h).1=r/\(gJ 2 hp.n v h).2=H):=by kernel_rfl):aO Tryz.prog G f args hp (λv h=>v=r/\h=H):=aO.walk 2 na gM (ev 40) hf hN hb hn d (p ⟨rfl,rfl⟩) e
theorem bH(hf:Tryz.prog.funcs[f]?=some fn){d:D}(p:Pf d W)(ht:az args=0:=by kernel_rfl)(hv:v.top=0:=by kernel_rfl)(hN:(fn.name== "runtime.NumGoroutine")=false:=by kernel_rfl)(hb:fn.body=some c:=by rfl)(hn:Nat.ble args.length fn.ntmps=true/\Nat.ble fn.ntmps 60000=true:=by exact⟨by kernel_rfl,by kernel_rfl⟩)(e:W=(WP Tryz.prog G (fF C 40) 0 c).run d ⟨⟨fn.ntmps,ib fn.ntmps args 0 .nil⟩,AHeap.none⟩ (Fv Tryz.prog 0 fn.results.toList λu h=>Le v (gJ 0 0 u h).1):=by kernel_rfl):aP Tryz.prog G f args v:=aP.walk na gM (ev 40) ht hv hf hN hb hn d p e
theorem Jl(hf:Tryz.prog.funcs[f]?=some fn){d:D}(p:Pf d W)(hN:(fn.name== "runtime.NumGoroutine")=false:=by kernel_rfl)(hb:fn.body=some c:=by rfl)(hn:Nat.ble args.length fn.ntmps=true/\Nat.ble fn.ntmps 60000=true:=by exact⟨by kernel_rfl,by kernel_rfl⟩)(e:W=(WP Tryz.prog G (fF C 40) hp.n c).run d ⟨⟨fn.ntmps,ib fn.ntmps args 0 .nil⟩,hp⟩ (Fv Tryz.prog hp.n fn.results.toList λv h=>Ψ (gJ 2 hp.n v h).1 (gJ 2 hp.n v h).2):=by kernel_rfl):aO Tryz.prog G f args hp Ψ:=aO.walk 2 na gM (ev 40) hf hN hb hn d p e
theorem eg(hf:Tryz.prog.funcs[f]?=some fn){d:D}(p:(r=r/\H=H)->Pf d W)(hN:(fn.name== "runtime.NumGoroutine")=false:=by kernel_rfl)(hb:fn.body=some c:=by rfl)(hn:Nat.ble args.length fn.ntmps=true/\Nat.ble fn.ntmps 60000=true:=by exact⟨by kernel_rfl,by kernel_rfl⟩)(e:W=(WP Tryz.prog G (fF C 40) hp.n c).run d ⟨⟨fn.ntmps,ib fn.ntmps args 0 .nil⟩,hp⟩ (Fv Tryz.prog hp.n fn.results.toList λv h=>(gJ 2 hp.n v h).1=r/\(gJ 2 hp.n v h).2=H):=by kernel_rfl):aO Tryz.prog G f args hp (λv h=>v=r/\h=H):=aO.walk 2 na gM (ev 40) hf hN hb hn d (p ⟨rfl,rfl⟩) e
theorem qH{Y:Type}{I:Y->Prop}{g:Y->AV}{K:Y->AHeap}(hf:Tryz.prog.funcs[f]?=some fn){d:D}(p:(∀y,I y->∃z,I z/\g y=g z/\K y=K z)->Pf d W)(hN:(fn.name== "runtime.NumGoroutine")=false:=by kernel_rfl)(hb:fn.body=some c:=by rfl)(hn:Nat.ble args.length fn.ntmps=true/\Nat.ble fn.ntmps 60000=true:=by exact⟨by kernel_rfl,by kernel_rfl⟩)(e:W=(WP Tryz.prog G (fF C 40) hp.n c).run d ⟨⟨fn.ntmps,ib fn.ntmps args 0 .nil⟩,hp⟩ (Fv Tryz.prog hp.n fn.results.toList λv h=>∃z,I z/\(gJ 2 hp.n v h).1=g z/\(gJ 2 hp.n v h).2=K z):=by kernel_rfl):aO Tryz.prog G f args hp (λv h=>∃z,I z/\v=g z/\h=K z):=aO.walk 2 na gM (ev 40) hf hN hb hn d (p λy h=>⟨y,h,rfl,rfl⟩) e
noncomputable abbrev uLx(u:TUnit):laa:=[iV u.act,iV u.item,iV u.n,iV u.kind,.str u.label,.ls (u.head.map aQ),.ls (u.words.map aQ),.ls (u.kids.map aU)]
noncomputable abbrev dLx(d:PDeed):laa:=[iV d.act,iV d.item,iV d.day,iV d.it.kind,.ls (d.it.at_.map aq),.ls (d.it.to.map aq),iV d.it.where_,iV d.it.nth_,iV d.it.unit.act,iV d.it.unit.item,iV d.it.unit.n,iV d.it.unit.kind,.str d.it.unit.label,.ls (d.it.unit.head.map aQ),.ls (d.it.unit.words.map aQ),.ls (d.it.unit.kids.map aU),.ls (d.it.old.map nD),.ls (d.it.new.map nD),.str d.it.label,.str d.it.for_,iV d.it.start.kind,iV d.it.start.day,.str d.it.start.event,iV d.it.act,iV d.it.item,iV d.it.day,.str d.it.event,.ls (d.it.by_.map PB)]
noncomputable abbrev iLx(d:PItem):laa:=[iV d.kind,.ls (d.at_.map aq),.ls (d.to.map aq),iV d.where_,iV d.nth_,iV d.unit.act,iV d.unit.item,iV d.unit.n,iV d.unit.kind,.str d.unit.label,.ls (d.unit.head.map aQ),.ls (d.unit.words.map aQ),.ls (d.unit.kids.map aU),.ls (d.old.map nD),.ls (d.new.map nD),.str d.label,.str d.for_,iV d.start.kind,iV d.start.day,.str d.start.event,iV d.act,iV d.item,iV d.day,.str d.event,.ls (d.by_.map PB)]
end Go.Proofs.YtiflidpifinbjaaGreatDoor
