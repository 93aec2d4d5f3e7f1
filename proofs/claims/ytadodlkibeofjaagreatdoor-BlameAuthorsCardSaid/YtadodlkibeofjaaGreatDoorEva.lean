/- The seat's machine: what package-level variables hold; that the machine's answers are the model's. -/
import Derived.Test.YtadodlkibeofjaaGreatDoorRows
import Derived.Test.YtadodlkibeofjaaGreatDoorMach8
namespace Go.Proofs.YtadodlkibeofjaaGreatDoor
open Go Go.Ev
noncomputable def MF:AV:=.agg [.int .u8 128,.int .u8 191,.int .u8 160,.int .u8 191,.int .u8 128,.int .u8 159,.int .u8 144,.int .u8 191,.int .u8 128,.int .u8 143,
  .int .u8 0,.int .u8 0,.int .u8 0,.int .u8 0,.int .u8 0,.int .u8 0,.int .u8 0,.int .u8 0,.int .u8 0,.int .u8 0,.int .u8 0,.int .u8 0,.int .u8 0,.int .u8 0,.int .u8 0,.int .u8 0,.int .u8 0,.int .u8 0,.int .u8 0,.int .u8 0,.int .u8 0,.int .u8 0]
noncomputable def R4:AV:=.agg [.str [98,111,111,107],.str [112,97,114,116],.str [115,101,99,116,105,111,110],.str [112,97,114,97,103,114,97,112,104],.str [116,97,98,108,101],.str [114,111,119],.str [99,101,108,108],.str [110,111,116,101]]
noncomputable def R6:AV:=.agg [.ps [.int .i64 1,.int .i64 2] false,.ps [.int .i64 2] false,.ps [.int .i64 3,.int .i64 4,.int .i64 7] false,.ps [.int .i64 3,.int .i64 4,.int .i64 7] false,.ps [.int .i64 5] false,.ps [.int .i64 6] false,.nils,.nils]
noncomputable def pe:AV:=.agg [.func (.func 376) [] [],.func (.func 377) [] []]
noncomputable def Z0:AV:=.agg (Go.Lib.pow10Tab.map fun z=>.int .u64 z)
noncomputable def gl:List (Nat×AV):=[(6,MF),(7,R4),(2,R6),(0,pe),(1,Z0)]
noncomputable abbrev G:eB:=KV gl
theorem jk:iT G:=ED (by kernel_rfl)
theorem ZC:Wg Tryz.prog:=fun f fn h=>by
  have key:(Tryz.prog.funcs.all fun fn=> !(fn.name== "runtime.NumGoroutine"))=true:=by kernel_rfl
  have:=Array.all_eq_true_iff_forall_mem.1 key fn (Array.mem_of_getElem? h)
  simpa using this
theorem pL:Tryz.prog.follows .mixedOrders=true:=by kernel_rfl
noncomputable def aa0:List Nat:=[61,65,66,67,94,95,96,156,228,231,319]
noncomputable def keeps:List Nat:=[56]
noncomputable def pol(f:FuncId):Nat:=match jU f aa0 with|true=>1|false=>(match jU f keeps with|true=>2|false=>0)
noncomputable def C:Cfg:={P:=Tryz.prog,G:=G,pol:=pol,rounds:=100000}
theorem ev(k:Nat):co Tryz.prog G (iF C k):=WS (C:=C) ZC pL (fun _ _ _ _ _ h=>by simp[C]at h) k
noncomputable def Gv:Option (AV×AHeap)->Bool
  |some (.bool true,_)=>true
  |_=>false
theorem closed{f:FuncId}(k:Nat)(h:Gv (iF C k f [] AHeap.none)=true):aL Tryz.prog G f [] (.bool true):=by
  cases hx:iF C k f [] AHeap.none with
  |none=>rw[hx]at h;cases h
  | some r=>
    obtain⟨v,h1⟩:=r
    rw[hx]at h
    have e:v=.bool true:=by
      unfold Gv at h
      split at h
      · rename_i q;cases q;rfl
      · cases h
    subst e
    exact oO jk rfl rfl ((aE.of (ev k) hx).mono fun v1 _ e=>e.1)
theorem oN(n:Nat):Int.ofNat n=(n:Int):=rfl
theorem lM{α β:Type}{f:α->β}{l:List α}:(l.map f).length=l.length:=b9 ..
theorem lS{α:Type}{l:List α}{i:Nat}{a:α}:(l.set i a).length=l.length:=kH ..
theorem lA{α:Type}{l m:List α}:(l++m).length=l.length+m.length:=eX ..
theorem lC{α:Type}{a:α}{l:List α}:(a::l).length=l.length+1:=rfl
theorem lN{α:Type}:([]:List α).length=0:=rfl
theorem lR{α:Type}{n:Nat}{a:α}:(List.replicate n a).length=n:=qY ..
abbrev iA(x:Int):AV:=.int .i64 x
abbrev nA(n:Nat):AV:=.int .i64 (.ofNat n)
theorem cp{p0 p1 p2:Prop}(h0:p0)(h1:p1)(h2:p2):p0/\p1/\p2:=⟨h0,h1,h2⟩
theorem js{p0 p1 p2 p3:Prop}(h0:p0)(h1:p1)(h2:p2)(h3:p3):p0/\p1/\p2/\p3:=⟨h0,h1,h2,h3⟩
theorem EM{p0 p1 p2 p3 p4:Prop}(h0:p0)(h1:p1)(h2:p2)(h3:p3)(h4:p4):p0/\p1/\p2/\p3/\p4:=⟨h0,h1,h2,h3,h4⟩
theorem yg{p0 p1 p2 p3 p4 p5:Prop}(h0:p0)(h1:p1)(h2:p2)(h3:p3)(h4:p4)(h5:p5):p0/\p1/\p2/\p3/\p4/\p5:=⟨h0,h1,h2,h3,h4,h5⟩
theorem OH{p0 p1 p2 p3 p4 p5 p6:Prop}(h0:p0)(h1:p1)(h2:p2)(h3:p3)(h4:p4)(h5:p5)(h6:p6):p0/\p1/\p2/\p3/\p4/\p5/\p6:=⟨h0,h1,h2,h3,h4,h5,h6⟩
theorem et8{p0 p1 p2 p3 p4 p5 p6 p7:Prop}(h0:p0)(h1:p1)(h2:p2)(h3:p3)(h4:p4)(h5:p5)(h6:p6)(h7:p7):p0/\p1/\p2/\p3/\p4/\p5/\p6/\p7:=⟨h0,h1,h2,h3,h4,h5,h6,h7⟩
theorem et9{p0 p1 p2 p3 p4 p5 p6 p7 p8:Prop}(h0:p0)(h1:p1)(h2:p2)(h3:p3)(h4:p4)(h5:p5)(h6:p6)(h7:p7)(h8:p8):p0/\p1/\p2/\p3/\p4/\p5/\p6/\p7/\p8:=⟨h0,h1,h2,h3,h4,h5,h6,h7,h8⟩
theorem Yn{p0 p1 p2 p3 p4 p5 p6 p7 p8 p9:Prop}(h0:p0)(h1:p1)(h2:p2)(h3:p3)(h4:p4)(h5:p5)(h6:p6)(h7:p7)(h8:p8)(h9:p9):p0/\p1/\p2/\p3/\p4/\p5/\p6/\p7/\p8/\p9:=⟨h0,h1,h2,h3,h4,h5,h6,h7,h8,h9⟩
theorem Ym{p0 p1 p2 p3 p4 p5 p6 p7 p8 p9 p10 p11:Prop}(h0:p0)(h1:p1)(h2:p2)(h3:p3)(h4:p4)(h5:p5)(h6:p6)(h7:p7)(h8:p8)(h9:p9)(h10:p10)(h11:p11):p0/\p1/\p2/\p3/\p4/\p5/\p6/\p7/\p8/\p9/\p10/\p11:=⟨h0,h1,h2,h3,h4,h5,h6,h7,h8,h9,h10,h11⟩
theorem rt:true=true:=rfl
theorem ti:True:=True.intro
theorem ei{p:Prop}(h:p:=by first|omega|(simp only[oN,lM,lS]at *;omega)|(simp only[oN,lM,lS,eX,lR,lC,lN]at * <;>omega)):p:=h
abbrev iV(x:Int):AV:=.int .i64 x
abbrev nV(n:Nat):AV:=.int .i64 (.ofNat n)
abbrev kP:=aL Tryz.prog G
abbrev kC:=aE Tryz.prog G
abbrev kD(f:FuncId)(a:List AV)(h:AHeap)(r:AV)(k:AHeap):Prop:=aE Tryz.prog G f a h fun v h=>v=r/\h=k
def Pf(_:D)(W:Prop):Prop:=W
theorem Mw(d:D){W:Prop}(p:W):Pf d W:=p
section
variable{d a b:D}{W V A B E:Prop}{x y:List AV}{u w:AV}{h k:AHeap}{Q:Program}{J:eB}{g:FuncId}{i:Nat}
theorem Mf(p:W):Pf .fin W:=p
theorem Mg(n:Nat)(p:Pf d W):Pf (.go n d) W:=p
theorem Mp(q:aL Q J g x u)(p:Pf d W):Pf (.pure u d) (aL Q J g x u/\W):=⟨q,p⟩
theorem Me(q:aE Q J g x h fun v1 h1=>v1=u/\h1=k)(p:Pf d W):Pf (.efd u k d) ((aE Q J g x h fun v1 h1=>v1=u/\h1=k)/\W):=⟨q,p⟩
theorem Ml(t:Nat)(q:Le u w)(p:Pf d W):Pf (.le t u d) (Le u w/\W):=⟨q,p⟩
theorem Ma(q:Le u w)(p:Pf d W):Pf (.asl u d) (Le u w/\W):=⟨q,p⟩
theorem Mx(q:jo x i=some u)(p:Pf d W):Pf (.elem u d) (jo x i=some u/\W):=⟨q,p⟩
theorem Mr(q:A/\jo x i=some u)(p:Pf d W):Pf (.rld u d) ((A/\jo x i=some u)/\W):=⟨q,p⟩
theorem Mv{l:Option ARes}(q:l=some (.val u h))(p:Pf d W):Pf (.val u d) (l=some (.val u h)/\W):=⟨q,p⟩
theorem Mo{l:Option ARes}(q:l=some (.val u h))(p:Pf d W):Pf (.opv u h d) (l=some (.val u h)/\W):=⟨q,p⟩
theorem Md{l:Option ARes}(e:A)(f:B)(q:l=some (.val u h))(p:Pf d W):Pf (.opv u h d) (A/\B/\l=some (.val u h)/\W):=⟨e,f,q,p⟩
theorem Mt(q:A)(p:Pf d W):Pf (.tt d) (A/\W):=⟨q,p⟩
theorem Mh(q:A)(p:Pf d W):Pf (.ff d) (A/\W):=⟨q,p⟩
theorem Mb(X:Bool)(f:X=true->Pf a V)(g:X=false->Pf b W):Pf (.br a b) ((X=true->V)/\(X=false->W)):=⟨f,g⟩
theorem Mn(X:Bool)(f:X=false->Pf a V)(g:X=true->Pf b W):Pf (.br a b) ((ax X=true->V)/\(ax X=false->W)):=⟨fun z=>f (ub z),fun z=>g (qA z)⟩
theorem Ms(X:Bool)(f:X=true->Pf a V)(g:X=false->Pf b W):Pf (.bs X a b) ((X=true->V)/\(X=false->W)):=⟨f,g⟩
theorem M1(c:D->D)(q:A)(p:Pf d W):Pf (c d) (A/\W):=⟨q,p⟩
theorem M2(c:D->D)(q:A)(r:B)(p:Pf d W):Pf (c d) (A/\B/\W):=⟨q,r,p⟩
theorem M3(c:D->D)(q:A)(r:B)(s:E)(p:Pf d W):Pf (c d) (A/\B/\E/\W):=⟨q,r,s,p⟩
end
theorem M0(c:D->D){d:D}{W:Prop}(p:Pf d W):Pf (c d) W:=p
theorem Mz(t:Nat){l:List AV}{a b:D}{V W:Prop}(f:l=[]->Pf a V)(p:Pf b W):Pf (.nz t a b) ((l=[]->V)/\W):=⟨f,p⟩
theorem Mq{Q:Program}{J:eB}{g:FuncId}{x:List AV}{h:AHeap}{Y:Type}{r:Y->AV}{k:Y->AHeap}{I:Y->Prop}{d:Y->D}{W:Y->Prop}(q:aE Q J g x h fun v1 h1=>∃y,I y/\v1=r y/\h1=k y)(p:∀y,I y->Pf (d y) (W y)):Pf (.eff Y r k I d) ((aE Q J g x h fun v1 h1=>∃y,I y/\v1=r y/\h1=k y)/\∀y,I y->W y):=⟨q,p⟩
theorem Mj(X:Type)(ts:List Nat)(S:X->List AV×List AObj)(I:X->Prop){d:D}{e:X->D}{V:Prop}{W:X->Prop}(p:(∀y,I y->∃z,I z/\S y=S z)->Pf d V)(f:∀x,I x->Pf (e x) (W x)):Pf (.join X ts S I d e) (V/\∀x,I x->W x):=⟨p fun y h=>⟨y,h,rfl⟩,f⟩
theorem ML(X:Type)(ts:List Nat)(S:X->List AV×List AObj)(I:X->Prop)(m:X->Nat)(x0:X){A B:Prop}{W:X->Prop}{d:X->D}(q:A)(r:B)(f:∀x,I x->(∀y,I y->m y<m x->Nx I m S x (S y))->Pf (d x) (W x)):Pf (.loop X ts S I m x0 d) (A/\B/\∀x,I x->W x):=⟨q,r,fun x h=>f x h fun y a b=>⟨y,a,b,rfl⟩⟩
theorem MM(X Y:Type)(ts:List Nat)(S:X->List AV×List AObj)(T:Y->List AV×List AObj)(I:X->Prop)(J:Y->Prop)(m:X->Nat)(n:Y->Nat)(x0:X ⊕ Y){A B:Prop}{W:X->Prop}{V:Y->Prop}{d:X->D}{e:Y->D}(q:A)(r:B)(f:∀x,I x->(∀y,Sum.elim I J y->Sum.elim m n y<Sum.elim m n (.inl x)->Nx (Sum.elim I J) (Sum.elim m n) (Sum.elim S T) (.inl x) (Sum.elim S T y))->Pf (d x) (W x))(g:∀x,J x->(∀y,Sum.elim I J y->Sum.elim m n y<Sum.elim m n (.inr x)->Nx (Sum.elim I J) (Sum.elim m n) (Sum.elim S T) (.inr x) (Sum.elim S T y))->Pf (e x) (V x)):Pf (.loop2 X Y ts S T I J m n x0 d e) (A/\B/\(∀x,I x->W x)/\∀x,J x->V x):=⟨q,r,fun x h=>f x h fun y a b=>⟨y,a,b,rfl⟩,fun x h=>g x h fun y a b=>⟨y,a,b,rfl⟩⟩
theorem Mc{T:Type}(l:List T){a:D}{b:T->List T->D}{V:Prop}{W:T->List T->Prop}(f:l=[]->Pf a V)(g:∀w r,l=w::r->Pf (b w r) (W w r)):Pf (.cs T l a b) ((l=[]->V)/\∀w r,l=w::r->W w r):=⟨f,g⟩
theorem Mi{T A:Type}{l:List T}{x:Nat×List T×A}(J:List T->A->Prop)(e:T->AV)(h:l.drop x.1=x.2.1/\J x.2.1 x.2.2){a:D}{b:T->List T->D}{V:Prop}{W:T->List T->Prop}(f:x.2.1=[]->aB (.ofNat x.1) (.ofNat l.length)=false->J [] x.2.2->Pf a V)(g:∀w r,x.2.1=w::r->aB (.ofNat x.1) (.ofNat l.length)=true->Int.ofNat x.1<Int.ofNat l.length->jo (l.map e) x.1=some (e w)->J (w::r) x.2.2->Pf (b w r) (W w r)):Pf (.cs T x.2.1 a b) ((x.2.1=[]->V)/\∀w r,x.2.1=w::r->W w r):=⟨fun q=>f q (gH h.1 q) (jA (J:=J) q h.2),fun w r q=>g w r q (gI h.1 q) (aA (gI h.1 q)) (gG h.1 q) (c8 (J:=J) q h.2)⟩
section
variable{d a b:D}{W V A:Prop}{x y:List AV}{u w:AV}{h k:AHeap}{Q:Program}{J:eB}{g:FuncId}{i:Nat}(n:Nat)
theorem Kf(p:W):Pf (.go n .fin) W:=p
theorem Ky{s t:Bool}(p:s=t):Pf (.go n .fin) (Le (.bool s) (.bool t)):=Le.bool p
theorem Kp(q:aL Q J g x u)(p:Pf d W):Pf (.go n (.pure u d)) (aL Q J g x u/\W):=⟨q,p⟩
theorem Ke(q:aE Q J g x h fun v1 h1=>v1=u/\h1=k)(p:Pf d W):Pf (.go n (.efd u k d)) ((aE Q J g x h fun v1 h1=>v1=u/\h1=k)/\W):=⟨q,p⟩
theorem Kl(t:Nat)(q:Le u w)(p:Pf d W):Pf (.go n (.le t u d)) (Le u w/\W):=⟨q,p⟩
theorem Kx(q:jo x i=some u)(p:Pf d W):Pf (.go n (.elem u d)) (jo x i=some u/\W):=⟨q,p⟩
theorem Kr(q:A/\jo x i=some u)(p:Pf d W):Pf (.go n (.rld u d)) ((A/\jo x i=some u)/\W):=⟨q,p⟩
theorem Kv{l:Option ARes}(q:l=some (.val u h))(p:Pf d W):Pf (.go n (.val u d)) (l=some (.val u h)/\W):=⟨q,p⟩
theorem Ko{l:Option ARes}(q:l=some (.val u h))(p:Pf d W):Pf (.go n (.opv u h d)) (l=some (.val u h)/\W):=⟨q,p⟩
theorem Kt(q:A)(p:Pf d W):Pf (.go n (.tt d)) (A/\W):=⟨q,p⟩
theorem Kh(q:A)(p:Pf d W):Pf (.go n (.ff d)) (A/\W):=⟨q,p⟩
theorem Kb(X:Bool)(f:X=true->Pf a V)(g:X=false->Pf b W):Pf (.go n (.br a b)) ((X=true->V)/\(X=false->W)):=⟨f,g⟩
theorem Kn(X:Bool)(f:X=false->Pf a V)(g:X=true->Pf b W):Pf (.go n (.br a b)) ((ax X=true->V)/\(ax X=false->W)):=Mn X f g
theorem Ks(X:Bool)(f:X=true->Pf a V)(g:X=false->Pf b W):Pf (.go n (.bs X a b)) ((X=true->V)/\(X=false->W)):=⟨f,g⟩
theorem K1(c:D->D)(q:A)(p:Pf d W):Pf (.go n (c d)) (A/\W):=⟨q,p⟩
end
variable{f:FuncId}{fn:Func}{c:Code}{args:List AV}{v r:AV}{W:Prop}{hp H:AHeap}{Ψ:AV->AHeap->Prop}
theorem wk(hf:Tryz.prog.funcs[f]?=some fn)(d:D)(p:W)(ht:aq args=0:=by kernel_rfl)(hv:v.top=0:=by kernel_rfl)(hN:(fn.name== "runtime.NumGoroutine")=false:=by kernel_rfl)(hb:fn.body=some c:=by rfl)(hn:Nat.ble args.length fn.ntmps=true/\Nat.ble fn.ntmps 60000=true:=by exact⟨by kernel_rfl,by kernel_rfl⟩)(e:W=(WP Tryz.prog G (iF C 40) 0 c).run d ⟨⟨fn.ntmps,gS fn.ntmps args 0 .nil⟩,AHeap.none⟩ (EH Tryz.prog 0 fn.results.toList fun u h=>Le v (fR 0 0 u h).1):=by kernel_rfl):aL Tryz.prog G f args v:=aL.walk pL jk (ev 40) ht hv hf hN hb hn d p e
theorem wcq(hf:Tryz.prog.funcs[f]?=some fn)(d:D)(p:(r=r/\H=H)->W)(hN:(fn.name== "runtime.NumGoroutine")=false:=by kernel_rfl)(hb:fn.body=some c:=by rfl)(hn:Nat.ble args.length fn.ntmps=true/\Nat.ble fn.ntmps 60000=true:=by exact⟨by kernel_rfl,by kernel_rfl⟩)(e:W=(WP Tryz.prog G (iF C 40) hp.n c).run d ⟨⟨fn.ntmps,gS fn.ntmps args 0 .nil⟩,hp⟩ (EH Tryz.prog hp.n fn.results.toList fun v h=>(fR 2 hp.n v h).1=r/\(fR 2 hp.n v h).2=H):=by kernel_rfl):aE Tryz.prog G f args hp (fun v h=>v=r/\h=H):=aE.walk 2 pL jk (ev 40) hf hN hb hn d (p ⟨rfl,rfl⟩) e
theorem bp(hf:Tryz.prog.funcs[f]?=some fn){d:D}(p:Pf d W)(ht:aq args=0:=by kernel_rfl)(hv:v.top=0:=by kernel_rfl)(hN:(fn.name== "runtime.NumGoroutine")=false:=by kernel_rfl)(hb:fn.body=some c:=by rfl)(hn:Nat.ble args.length fn.ntmps=true/\Nat.ble fn.ntmps 60000=true:=by exact⟨by kernel_rfl,by kernel_rfl⟩)(e:W=(WP Tryz.prog G (iF C 40) 0 c).run d ⟨⟨fn.ntmps,gS fn.ntmps args 0 .nil⟩,AHeap.none⟩ (EH Tryz.prog 0 fn.results.toList fun u h=>Le v (fR 0 0 u h).1):=by kernel_rfl):aL Tryz.prog G f args v:=aL.walk pL jk (ev 40) ht hv hf hN hb hn d p e
theorem PN(hf:Tryz.prog.funcs[f]?=some fn){d:D}(p:Pf d W)(hN:(fn.name== "runtime.NumGoroutine")=false:=by kernel_rfl)(hb:fn.body=some c:=by rfl)(hn:Nat.ble args.length fn.ntmps=true/\Nat.ble fn.ntmps 60000=true:=by exact⟨by kernel_rfl,by kernel_rfl⟩)(e:W=(WP Tryz.prog G (iF C 40) hp.n c).run d ⟨⟨fn.ntmps,gS fn.ntmps args 0 .nil⟩,hp⟩ (EH Tryz.prog hp.n fn.results.toList fun v h=>Ψ (fR 2 hp.n v h).1 (fR 2 hp.n v h).2):=by kernel_rfl):aE Tryz.prog G f args hp Ψ:=aE.walk 2 pL jk (ev 40) hf hN hb hn d p e
theorem fS(hf:Tryz.prog.funcs[f]?=some fn){d:D}(p:(r=r/\H=H)->Pf d W)(hN:(fn.name== "runtime.NumGoroutine")=false:=by kernel_rfl)(hb:fn.body=some c:=by rfl)(hn:Nat.ble args.length fn.ntmps=true/\Nat.ble fn.ntmps 60000=true:=by exact⟨by kernel_rfl,by kernel_rfl⟩)(e:W=(WP Tryz.prog G (iF C 40) hp.n c).run d ⟨⟨fn.ntmps,gS fn.ntmps args 0 .nil⟩,hp⟩ (EH Tryz.prog hp.n fn.results.toList fun v h=>(fR 2 hp.n v h).1=r/\(fR 2 hp.n v h).2=H):=by kernel_rfl):aE Tryz.prog G f args hp (fun v h=>v=r/\h=H):=aE.walk 2 pL jk (ev 40) hf hN hb hn d (p ⟨rfl,rfl⟩) e
theorem qk{Y:Type}{I:Y->Prop}{g:Y->AV}{K:Y->AHeap}(hf:Tryz.prog.funcs[f]?=some fn){d:D}(p:(∀y,I y->∃z,I z/\g y=g z/\K y=K z)->Pf d W)(hN:(fn.name== "runtime.NumGoroutine")=false:=by kernel_rfl)(hb:fn.body=some c:=by rfl)(hn:Nat.ble args.length fn.ntmps=true/\Nat.ble fn.ntmps 60000=true:=by exact⟨by kernel_rfl,by kernel_rfl⟩)(e:W=(WP Tryz.prog G (iF C 40) hp.n c).run d ⟨⟨fn.ntmps,gS fn.ntmps args 0 .nil⟩,hp⟩ (EH Tryz.prog hp.n fn.results.toList fun v h=>∃z,I z/\(fR 2 hp.n v h).1=g z/\(fR 2 hp.n v h).2=K z):=by kernel_rfl):aE Tryz.prog G f args hp (fun v h=>∃z,I z/\v=g z/\h=K z):=aE.walk 2 pL jk (ev 40) hf hN hb hn d (p fun y h=>⟨y,h,rfl,rfl⟩) e
noncomputable abbrev uLx(u:TUnit):List AV:=[iV u.act,iV u.item,iV u.n,iV u.kind,.str u.label,.ls (u.head.map aQ),.ls (u.words.map aQ),.ls (u.kids.map aY)]
noncomputable abbrev dLx(d:PDeed):List AV:=[iV d.act,iV d.item,iV d.day,iV d.it.kind,.ls (d.it.at_.map az),.ls (d.it.to.map az),iV d.it.where_,iV d.it.nth_,iV d.it.unit.act,iV d.it.unit.item,iV d.it.unit.n,iV d.it.unit.kind,.str d.it.unit.label,.ls (d.it.unit.head.map aQ),.ls (d.it.unit.words.map aQ),.ls (d.it.unit.kids.map aY),.ls (d.it.old.map nw),.ls (d.it.new.map nw),.str d.it.label,.str d.it.for_,iV d.it.start.kind,iV d.it.start.day,.str d.it.start.event,iV d.it.act,iV d.it.item,iV d.it.day,.str d.it.event,.ls (d.it.by_.map OP)]
noncomputable abbrev iLx(d:PItem):List AV:=[iV d.kind,.ls (d.at_.map az),.ls (d.to.map az),iV d.where_,iV d.nth_,iV d.unit.act,iV d.unit.item,iV d.unit.n,iV d.unit.kind,.str d.unit.label,.ls (d.unit.head.map aQ),.ls (d.unit.words.map aQ),.ls (d.unit.kids.map aY),.ls (d.old.map nw),.ls (d.new.map nw),.str d.label,.str d.for_,iV d.start.kind,iV d.start.day,.str d.start.event,iV d.act,iV d.item,iV d.day,.str d.event,.ls (d.by_.map OP)]
end Go.Proofs.YtadodlkibeofjaaGreatDoor
