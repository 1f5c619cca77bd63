/- A part. -/
import Derived.Test.YtiikkkhcolcebaaGreatDoorG6
import Derived.Test.YtiikkkhcolcebaaGreatDoorG13
import Derived.Test.YtiikkkhcolcebaaGreatDoorG15
import Derived.Test.YtiikkkhcolcebaaGreatDoorG16
import Derived.Test.YtiikkkhcolcebaaGreatDoorG18
import Derived.Test.YtiikkkhcolcebaaGreatDoorG19
import Derived.Test.YtiikkkhcolcebaaGreatDoorG21
import Derived.Test.YtiikkkhcolcebaaGreatDoorG23
import Derived.Test.YtiikkkhcolcebaaGreatDoorG25
set_option linter.all false
set_option maxHeartbeats 4000000
set_option maxRecDepth 100000
namespace Go.Proofs.YtiikkkhcolcebaaGreatDoor
noncomputable section
section
open Go.RowKit Pl AI
attribute [local irreducible] bp.wp
def aqE(l:List It):(l.map bu).all (·.all PV.bare)=true:=aal (f:=bu) (λ_=>rfl) l
structure Mb(l:List It)(g:Int):Prop where
 s:SL l
 h0:0<=g
 h1:g<=1000000
def Mb.wm{l g}(h:Mb l g):WM (gu l g):=asY h.s g
def Mb.mv{l g}(h:Mb l g):MV (gu l g):=avU h.s.v h.h0 (by have:=h.h1;omega)
def DG{l g}(h:Mb l g)(k):vl (g_ (gu l g)++[.i k])=some (pg (dB l k)):=by
 have:=awa h.wm h.mv k
 rwa [yv h.s.v]at this
def JB{l g}(h:Mb l g):rJ (g_ (gu l g))=some [.r (l.map bu)]:=by
 have:=Ep h.wm h.mv
 rwa [yv h.s.v]at this
def AM(o):0<=gk o/\gk o<=4120:=by
 cases o with
 |none=>exact⟨dc,dc⟩
 |some y=>exact I9 y.size
def TW(a b:L)(l):([2,3,4,5,6,7,8,9].all λi=>((([a,b]++oi l)[i]?).getD (.b false)).bE.all (·.all PV.bare))=true:=by
 have h:=λs=>aqE (dY l s)
 show((((dY l 0).map bu).all (·.all PV.bare))&& (((dY l 1).map bu).all (·.all PV.bare)&& (((dY l 2).map bu).all (·.all PV.bare)&& (((dY l 3).map bu).all (·.all PV.bare)&& (((dY l 4).map bu).all (·.all PV.bare)&& (((dY l 5).map bu).all (·.all PV.bare)&& (((dY l 6).map bu).all (·.all PV.bare)&& (((dY l 7).map bu).all (·.all PV.bare)&&true))))))))=true;rw[h,h,h,h,h,h,h,h];rfl
def awc{l g}(h:Mb l g)(x)(e:ff x=true)(i:0<=x.key/\x.key<8):
 K6 (g_ (gu l g)++[.i x.key,.i x.cookie,.i x.off,.i x.size])=some (g_ (gu (ins x l) (g+gk (dB l x.key)))):=by
 have r:=h.s.len;have s:=AM (dB l x.key);have o:=h.h0;have p:=h.h1;have c:=ayI l om x;have b:=h.s.ins e i.1 i.2;have q:=b.len;rw[DM h.s,alE h.s.v.1]at c;have d:=Wu (l:=ins x l) om b.v.2 (g:=g+gk (dB l x.key)) om om;rw[DM b]at d;refine bJ ?_;refine dC [.b false] ?_ ?_
 .refine bR (GA h.wm (kx h.mv)) ?_;refine cu ?_;refine bR (D5 x (kx e)) ?_;exact bm rfl
 refine cu ?_;refine dC [.i (gk (dB l x.key))] ?_ ?_
 .have a:=DG h x.key
  cases j:dB l x.key with
  |none=>
   rw[j]at a;simp only[pg]at a;refine bz a ?_;refine cu ?_;exact bm rfl
  |some y=>
   rw[j]at a;simp only[pg]at a;refine bz a ?_;refine gY ?_;refine bz (ow y.size) ?_;exact bm rfl
 refine iU (n:=g+gk (dB l x.key)) rfl om om (uR ?_);refine bT rfl om ?_;refine bz (JB h) ?_;refine He (f:=bu) (m:=ins x l) (λ_=>rfl) c rfl rfl (nW ?_);refine fg (g+gk (dB l x.key)) rfl ?_;refine du d rfl (TW _ _ _) (nW ?_);exact bm rfl
def ayx{k l}(h:dB l k=none)(a:fL l):fQ k l=l:=by
 unfold fQ;rw[List.filter_eq_self];intro x b;rw[decide_eq_true_iff];intro e;rw[<-e,uG a.apart b]at h;cases h
def QQ{l g}(h:Mb l g)(k:Int):FC (g_ (gu l g)++[.i k])=some (g_ (gu (fQ k l) (g+gk (dB l k)))):=by
 have p:=h.s.len;have d:=AM (dB l k);have i:=h.h0;have j:=h.h1;have a:=DG h k;have b:=h.s.drop k;have o:=b.len;have iV:=axu l om k;rw[DM h.s]at iV;have c:=Wu (l:=fQ k l) om b.v.2 (g:=g+gk (dB l k)) om om;rw[DM b]at c;refine bJ ?_
 cases e:dB l k with
 |none=>
  rw[e]at a;simp only[pg]at a;refine bz a ?_;refine dC [.b true] ?_ ?_
  .refine uR ?_;refine gY ?_;exact bm rfl
  refine y7 rfl (bm ?_);rw[ayx e h.s.v.1,show g+gk none=g by show g+0=g;omega];rfl
 |some y=>
  rw[e]at a c d;simp only[pg]at a;have d:0<=dq y.size/\dq y.size<=4120:=d;refine bz a ?_;refine dC [.b false] ?_ ?_
  .refine uR ?_;refine cu ?_;refine bz (ow y.size) ?_;refine iU (n:=g+dq y.size) rfl om om (uR ?_);exact bm (dF om)
  refine cu ?_;refine bz (JB h) ?_;refine He (f:=bu) (m:=fQ k l) (λ_=>rfl) iV rfl rfl (nW ?_);refine bz (ow y.size) ?_;refine fg (g+dq y.size) rfl ?_;refine du c rfl (TW _ _ _) (nW ?_);exact bm rfl
def awM{l g}(h:Mb l g){n:Int}(c:0<=n)(d:n<=1000000):KF (g_ (gu l g)++[.i n])=some [.i (g+n)]:=by
 have a:=h.h0;have b:=h.h1;refine bJ ?_;refine ew [.i (g+n)] ?_;refine dC [.b true] ?_ ?_
 .refine bR (GA h.wm (kx h.mv)) ?_;refine gY (uR ?_);refine c9 rfl om ?_;refine nM (n:=1099511627776-g) rfl om om (uR ?_);exact bm (dT (by show n<=1099511627776-g;omega))
 refine gY ?_;refine fg (g+n) rfl ?_;exact bm rfl
structure Ge where
 n:Nat
 mode:Int
 l:List It
 dW:Int
def Ge.size(e:Ge):Int:=16+de e.l+e.dW
def Ge.gn(e:Ge):Gn:=⟨(e.n+1:Nat),0,e.mode,e.size,gu e.l e.dW⟩
structure fZ(e:Ge):Prop where
 n8:e.n<8
 m1:1<=e.mode
 m3:e.mode<=3
 s:SL e.l
 cl:e.l.Pairwise Clear
 en:∀x∈e.l,ends x<=e.size
 g0:0<=e.dW
 g8:e.dW%8=0
 sz:e.size<=17000
def TX(n):dq n%8=0:=by unfold dq;split<;>omega
def OO:∀l,de l%8=0
 |[]=>rfl
 |x::l=>by
  have a:=OO l;have b:=TX x.size;rw[qP];omega
def fZ.mb{e}(h:fZ e):Mb e.l e.dW:=⟨h.s,h.g0,by
 have a:=h.sz;have d:=pL e.l;unfold Ge.size at a;omega⟩
def fZ.gv{e}(h:fZ e):GV e.gn:=by
 have a:=h.sz;have d:=pL e.l;have m:=h.g0;have q:=h.n8;have t:=OO e.l;have u:=h.g8;refine⟨⟨?_,?_,(by show(0:Int)<=0;omega),(by show(0:Int)<4294967296;omega),h.m1,h.m3⟩,⟨?_,?_,?_⟩,h.mb.mv,?_,rfl⟩
 .show(1:Int)<=((e.n+1:Nat):Int);omega
 .show((e.n+1:Nat):Int)<=8;omega
 .show 16<=e.size;unfold Ge.size;omega
 .show e.size<=_;omega
 .show e.size%8=0;unfold Ge.size;omega
 .show(items (gu e.l e.dW)).Pairwise Clear/\∀x∈items (gu e.l e.dW),ends x<=e.size;rw[yv h.s.v];exact⟨h.cl,h.en⟩
def GS{e}(h:fZ e):s_ (gz e.gn)=some [.b true]:=auL (g:=e.gn) h.mb.wm (kx h.gv)
def Zx{e}(h:fZ e)(a b:Int)(c:e.mode=a):Fy (gz e.gn++[.i a,.i b])=some (.i 0::gz (Ge.gn {e with mode:=b})):=by
 refine bJ ?_;refine bR (GS h) ?_;refine cu (uR ?_);refine bT rfl (λh=>h c) ?_;exact bm rfl
def ags{e}(h:fZ e)(a:e.mode=2):Nv (gz e.gn)=some (.i 0::gz (Ge.gn {e with mode:=3})):=by
 refine bJ ?_;refine bz (Zx h 2 3 a) ?_;exact bm rfl
def agT{e}(h:fZ e)(a:e.mode=1):Nz (gz e.gn)=some (.i 0::gz (Ge.gn {e with mode:=2})):=by
 refine bJ ?_;refine bz (Zx h 1 2 a) ?_;exact bm rfl
def Rf{n:Nat}(a:n<8):Hc [.i (n+1:Nat)]=some [.i 0,.i (n+1:Nat),.i 1,.i 16]:=by
 refine bJ ?_;refine dC [.b false] ?_ ?_
 .refine uR ?_;refine bT rfl om (uR ?_);exact bm (dF om)
 refine cu ?_;exact bm rfl
def Ge.del(e:Ge)(k:Int):Ge:={e with l:=fQ k e.l,dW:=e.dW+gk (dB e.l k)}
def Ge.OF{e:Ge}(h:fL e.l)(k):(e.del k).size=e.size:=by
 have:=T_ (k:=k) h;show 16+de (fQ k e.l)+(e.dW+gk (dB e.l k))=16+de e.l+e.dW;omega
def TJ(o):gk o%8=0:=by
 cases o with
 |none=>rfl
 |some y=>exact TX y.size
def fZ.del{e}(h:fZ e)(k):fZ (e.del k):=by
 have a:=Ge.OF h.s.v.1 k;have t:=AM (dB e.l k);have u:=TJ (dB e.l k);have d:=h.g0;have m:=h.g8;refine⟨h.n8,h.m1,h.m3,h.s.drop k,h.cl.sublist (IJ),λx q=>?_,?_,?_,?_⟩
 .rw[a];exact h.en x (sr.1 q).1
 .show 0<=e.dW+_;omega
 .show(e.dW+_)%8=0;omega
 .rw[a];exact h.sz
def anG{e}(h:fZ e)(hm:e.mode≠1)(k:Int):NA (gz e.gn++[.r [[.sc (.int .u64 k)]]])=some (.i 0::gz (e.del k).gn):=by
 have hd:=QQ h.mb k;refine bJ ?_;refine bR (GS h) ?_;refine cu (uR ?_);refine bT rfl hm ?_;refine dC (g_ (gu (fQ k e.l) (e.dW+gk (dB e.l k)))) ?_ ?_
 .refine wp_loop (I:=λa=>a=.i 0::g_ (gu e.l e.dW)\/a=.i 1::g_ (gu (fQ k e.l) (e.dW+gk (dB e.l k)))) (mu:=cN 1) (.inl rfl) ?_;rintro a (rfl|rfl)
  .refine uR ?_;refine c9 rfl oO ?_;refine jy (r:=[.sc (.int .u64 k)]) oO rfl rfl (uR ?_);refine bz hd ?_;refine cj 0 ?_;exact bm ⟨.inr rfl,by show 1- (1:Int).toNat<1- (0:Int).toNat;decide⟩
  .refine uR ?_;refine bT rfl oO ?_;exact bm rfl
 refine bm ?_;show(_:List L)=L.i 0::gz (e.del k).gn;unfold gz Ge.gn;dsimp only;rw[Ge.OF h.s.v.1 k];rfl
structure Nl where
 key:Int
 cookie:Int
 del:Bool
 data:List Nat
def Nl.row(x:Nl):List PV:=[.sc (.int .u64 x.key),.sc (.int .u32 x.cookie),.sc (.bool x.del),.sl (x.data.map b1)]
structure k_(x:Nl):Prop where
 k0:0<=x.key
 k8:x.key<8
 c0:0<=x.cookie
 c4:x.cookie<=4294967295
 d:x.del=true->x.data=[]
 b:B8 x.data
 len:x.data.length<=30
def Ge.item(e:Ge)(x:Nl):It:=⟨x.key,x.cookie,e.size,x.data.length⟩
def Ge.add(e:Ge)(x:Nl):Ge:=if x.del=true then{e with l:=fQ x.key e.l,dW:=e.dW+gk (dB e.l x.key)+24}else{e with l:=ins (e.item x) e.l,dW:=e.dW+gk (dB e.l x.key)}
def Zf{x:Nl}(h:k_ x)(a:x.del=true):dq (x.data.length:Int)=24:=by rw[h.d a];rfl
def Ge.Kh{e:Ge}(h:fL e.l){x}(d:k_ x):(e.add x).size=e.size+dq x.data.length:=by
 unfold Ge.add;by_cases a:x.del=true
 .rw[bB a,Zf d a];have:=T_ (k:=x.key) h;show 16+de (fQ x.key e.l)+(e.dW+gk (dB e.l x.key)+24)=16+de e.l+e.dW+24;omega
 .rw[bG a];have:=aDj (x:=e.item x) h;have m:(e.item x).key=x.key:=rfl;have q:(e.item x).size=(x.data.length:Int):=rfl;rw[m,q]at this;show 16+de (ins (e.item x) e.l)+(e.dW+gk (dB e.l x.key))=16+de e.l+e.dW+_;omega
def HL{n:Nat}(h:n<=30):24<=dq (n:Int)/\dq (n:Int)<=56:=by unfold dq;split<;>omega
def fZ.bd{e}(h:fZ e):16<=e.size/\e.size%8=0/\0<=de e.l/\e.dW<=17000:=by
 have a:=h.sz;have d:=pL e.l;have m:=h.g0;have q:=OO e.l;have t:=h.g8;unfold Ge.size at*;omega
def aaN{e}(h:fZ e){x}(a:k_ x):ff (e.item x)=true:=by
 have b:=h.bd;have c:=h.sz;have d:=a.len;simp only[ff,cF,e_];show(((16<=e.size/\e.size<=1048576)/\e.size%8=0)/\0<=(x.data.length:Int))/\(x.data.length:Int)<=4096;omega
def fZ.add{e}(h:fZ e){x}(t:k_ x)(P:e.size+dq x.data.length<=17000):fZ (e.add x):=by
 have H:=Ge.Kh h.s.v.1 t;have Q:=AM (dB e.l x.key);have R:=TJ (dB e.l x.key);have S:=HL t.len;have K:=h.g0;have M:=h.g8;have N:=h.bd;by_cases I:x.del=true
 .have G:e.add x={e with l:=fQ x.key e.l,dW:=e.dW+gk (dB e.l x.key)+24}:=bB I;rw[G]at H⊢;refine⟨h.n8,h.m1,h.m3,h.s.drop _,h.cl.sublist (IJ),λy m=>?_,?_,?_,?_⟩
  .have:=h.en y (sr.1 m).1;omega
  .show 0<=e.dW+_+24;omega
  .show(e.dW+_+24)%8=0;omega
  .omega
 .have G :e.add x={e with l:=ins (e.item x) e.l,dW:=e.dW+gk (dB e.l x.key)}:=bG I;rw[G]at H⊢;have u:∀y∈e.l,Clear (e.item x) y:=λy m=>by
   have O:=h.en y m;have T:=Ez (h.s.v.2 y m);unfold Clear;unfold ends at O⊢;show¬(e.size<=y.off/\_)/\¬(y.off<=e.size/\e.size<y.off+dq y.size);omega
  refine⟨h.n8,h.m1,h.m3,h.s.ins (aaN h t) t.k0 t.k8,?_,λy m=>?_,?_,?_,?_⟩
  .have z:∀a∈ins (e.item x) e.l,∀b∈ins (e.item x) e.l,a.key≠b.key->Clear a b:=λa F b q B=>by
    rcases(uE h.s.v.1).1 F with rfl| ⟨F,_⟩
    .rcases(uE h.s.v.1).1 q with rfl| ⟨q,_⟩
     .exact absurd rfl B
     .exact u b q
    .rcases(uE h.s.v.1).1 q with rfl| ⟨q,_⟩
     .exact(u a F).symm
     .obtain⟨i,D,rfl⟩:=kL F;obtain⟨j,E,rfl⟩:=kL q;rcases C1 i j with d|d|d
      .exact lM.1 h.cl i j D E d
      .subst d;exact absurd rfl B
      .exact(lM.1 h.cl j i E D d).symm
   refine lM.2 λi j D E d=>z _ (cV D) _ (cV E) ?_
   have:=lM.1 (AK (e.item x) h.s.v.1) i j D E d;intro J;have J:(ins (e.item x) e.l)[i].key=(ins (e.item x) e.l)[j].key:=J;omega
  .rcases vq m with rfl|m
   .show e.size+dq (x.data.length:Int)<=_;omega
   .have:=h.en y m;omega
  .show 0<=e.dW+_;omega
  .show(e.dW+_)%8=0;omega
  .omega
def aqV{e}(h:fZ e)(hm:e.mode=1){x}(hx:k_ x):J3 (gz e.gn++[.r [x.row]])=some (.i 0::gz (e.add x).gn):=by
 have hz:=Ge.Kh h.s.v.1 hx;have Ic:=h.bd;have hsz:=h.sz;have h2:=HL hx.len;have kH:=QQ h.mb x.key;have hob:=AM (dB e.l x.key);have hit:ff (e.item x)=true:=aaN h hx;have hpu:=awc h.mb (e.item x) hit ⟨hx.k0,hx.k8⟩;have hvn:=aau (key:=x.key) (cookie:=x.cookie) (del:=x.del) (data:=x.data) (by have:=hx.len;omega) hx.d;refine bJ ?_;refine bR (GS h) ?_;refine cu ?_;refine bO (λxs=>xs=[.i (e.size+dq x.data.length)]) ?_ ?_
 .refine wp_loop (I:=λa=>a=[.i e.size,.i 0]\/a=[.i (e.size+dq x.data.length),.i 1]) (mu:=gX 1) (.inl rfl) ?_;rintro a (rfl|rfl)
  .refine uR ?_;refine c9 rfl oO ?_;refine jy (r:=x.row) oO rfl rfl (uR ?_);refine bR hvn ?_;refine cu ?_;refine jy (r:=x.row) oO rfl rfl (uR ?_);rw[bA];refine bz (ow (x.data.length:Int)) ?_;refine fg (e.size+dq x.data.length) rfl ?_;refine cj 0 ?_;exact bm ⟨.inr rfl,by show 1- (1:Int).toNat<1- (0:Int).toNat;decide⟩
  .refine uR ?_;refine bT rfl oO ?_;exact bm rfl
 rintro _ rfl;refine uR ?_;refine bT rfl (λh=>h hm) (uR ?_);refine bT rfl om ?_;refine dC (.i (e.add x).size::g_ (e.add x).gn.map) ?_ ?_
 .refine wp_loop (I:=λa=>a=.i 0:: .i e.size::g_ (gu e.l e.dW)\/a=.i 1:: .i (e.add x).size::g_ (e.add x).gn.map) (mu:=cN 1) (.inl rfl) ?_;rintro a (rfl|rfl)
  .refine uR ?_;refine c9 rfl oO ?_;refine jy (r:=x.row) oO rfl rfl (uR ?_);rw[bA];refine bz (ow (x.data.length:Int)) ?_;refine dC (g_ (e.add x).gn.map) ?_ ?_
   .by_cases hd:x.del=true
    .have ea:(e.add x).gn.map=gu (fQ x.key e.l) (e.dW+gk (dB e.l x.key)+24):=by unfold Ge.add;rw[bB hd];rfl
     have hw:=awM (l:=fQ x.key e.l) (g:=e.dW+gk (dB e.l x.key)) ⟨h.s.drop _,by have:=h.g0;omega,om⟩ (n:=24) dc dc;rw[ea];refine y7 hd ?_;refine bz kH ?_;rw[Zf hx hd];refine bz hw ?_;exact bm rfl
    .have ea:(e.add x).gn.map=gu (ins (e.item x) e.l) (e.dW+gk (dB e.l x.key)):=by unfold Ge.add;rw[bG hd];rfl
     rw[ea];refine qo (by show x.del=false;simpa using hd) (uR ?_);rw[bA];refine bz hpu ?_;exact bm rfl
   refine fg ((e.add x).size) hz.symm ?_;refine cj 0 ?_;exact bm ⟨.inr rfl,by show 1- (1:Int).toNat<1- (0:Int).toNat;decide⟩
  .refine uR ?_;refine bT rfl oO ?_;exact bm rfl
 refine bm ?_;unfold Ge.add;by_cases hd:x.del=true
 .rw[bB hd];rfl
 .rw[bG hd];rfl
structure ec(gs:List Ge):Prop where
 n1:1<=gs.length
 n8:gs.length<=8
 ok:∀(i:Nat)(h:i<gs.length),fZ gs[i]/\gs[i].n=i/\(gs[i].mode=1↔i=gs.length-1)
def gR(e:Ge):List PV:=yc e.gn
abbrev sA(gs:List Ge):List L:=[.i 1,.i 9000,.b false,.r (gs.map gR)]
def tL(l:List Ge):cC 14 (l.map gR)=true:=by
 unfold cC;rw[cI];intro x a;obtain⟨y,_,rfl⟩:=gg.1 a;rfl
theorem Ge.num(e:Ge):e.gn.num=((e.n+1:Nat):Int):=rfl
def tm{gs}(h:ec gs):tj (sA gs)=some [.b true]/\Kb (sA gs)=some [.b true]:=by
 have hn:=h.n8;have qS:=h.n1;have pT:gs.length-1<gs.length:=om;constructor<;>
 .refine gp ?_;rw[bA];refine dC [.b false] ?_ ?_
  .refine uR ?_;refine bT rfl oO (uR ?_);refine bT rfl oO ?_;refine bz (ow 4096) ?_;refine iU (n:=4136) rfl om om (uR ?_);refine bT rfl oO (uR ?_);refine bT rfl oO (uR ?_);refine bT rfl om (uR ?_);exact bm (dF om)
  refine cu ?_;refine bO (λxs=>xs=[]) ?_ ?_;rotate_left
  .rintro _ rfl;have hg:=(h.ok _ pT).1;have q2:=hg.sz;have q3:=hg.s.len;have q4:=hg.bd;refine nW ?_;refine eb (((gs.length-1:Nat):Int)) (by show(gs.length:Int) -1=_;omega) ?_;refine eR gR (gs.length-1) pT ?_
   repeat refine dP gR (gs.length-1) pT ?_
   refine uR ?_;refine bz (ow 0) ?_;refine du (aAj hg.mb.wm hg.mb.mv) rfl rfl ?_;rw[show items gs[gs.length-1].gn.map=gs[gs.length-1].l from yv hg.s.v _];refine nW ?_;refine mR (24*(gs[gs.length-1].l).length) rfl ?_;refine fg (gs[gs.length-1].size+24*(gs[gs.length-1].l).length) rfl ?_;refine rU (n:=18000) rfl om om (uR ?_);exact bm (dT om)
  refine wp_loop (I:=λa=>∃i:Nat,a=[.i i]/\i<=gs.length) (mu:=cN gs.length) ⟨0,rfl,om⟩ ?_;rintro a ⟨i,rfl,e1⟩;refine uR ?_;refine cD rfl (λhc=>?_) (λhc=>bm rfl);have hi:i<gs.length:=om;have hg:=h.ok i hi;have hsz:=hg.1.sz;refine eR gR i hi ?_
  repeat refine dP gR i hi ?_
  refine uR ?_;refine bO (λxs=>xs=[.b false]) ?_ ?_
  .refine bR (GS hg.1) ?_;refine cu (uR ?_);refine nM (n:=((gs.length-1:Nat):Int)) (by show(gs.length:Int) -1=_;omega) om om (uR ?_);have hm:(decide (gs[i].mode=1) !=decide ((i:Int)=((gs.length-1:Nat):Int)))=false:=by
    rw[bne_eq_false_iff_eq,decide_eq_decide,Int.ofNat_inj];exact hg.2.2
   refine qo hm (uR ?_);refine cD rfl (λh4=>?_) λh4=>?_
   .have jc:i-1<gs.length:=om;have hg1:=(h.ok _ jc).2.1;refine eb (((i-1:Nat):Int)) (by show(i:Int) -1=_;omega) ?_;refine eR gR (i-1) jc ?_
    repeat refine dP gR (i-1) jc ?_
    refine uR ?_;refine bT rfl (by show¬((gs[i].n+1:Nat):Int)<=((gs[i-1].n+1:Nat):Int);rw[hg.2.1,hg1];omega) ?_;refine rU (n:=18000) rfl om om (uR ?_);exact bm (dF (by show¬gs[i].size>18000;omega))
   .refine rU (n:=18000) rfl om om (uR ?_);exact bm (dF (by show¬gs[i].size>18000;omega))
  .rintro _ rfl;refine nW ?_;refine cu ?_;refine cj i ?_;exact bm ⟨⟨i+1,rfl,om⟩,dy gs.length i⟩
def df(gs:List Ge):Ge:=gs.getD (gs.length-1) ⟨0,0,[],0⟩
def uV{gs}(h:ec gs):∃a:gs.length-1<gs.length,gs[gs.length-1]=df gs:=by
 have:=h.n1;have a:gs.length-1<gs.length:=om;refine⟨a,?_⟩;unfold df;rw[iD,db a];rfl
def mF{gs}(h:ec gs):fZ (df gs)/\(df gs).n=gs.length-1/\(df gs).mode=1:=by
 obtain⟨a,e⟩:=uV h;have:=h.ok _ a;rw[e]at this;exact⟨this.1,this.2.1,this.2.2.2 rfl⟩
def Wa{gs}(h:ec gs):GY (sA gs)=some (.i 0::gz (df gs).gn):=by
 have c:=h.n8;have a:=h.n1;obtain⟨b,e⟩:=uV h;refine bJ ?_;refine bR (tm h).1 ?_;refine cu (uR ?_);rw[bA];refine eb (((gs.length-1:Nat):Int)) (by show(gs.length:Int) -1=_;omega) ?_;refine dV (f:=gR) (l:=gs) (j:=gs.length-1) rfl rfl b rfl ?_;rw[e];refine uR ?_;exact bm rfl
def oR(e:Ge):List PV:=[.sc (.int .i64 (e.n+1:Nat))]
def lY(k:Int)(e:Ge):Bool:=(dB e.l k).isSome
def arq(l:List Ge):cC 1 (l.map oR)=true:=by
 unfold cC;rw[cI];intro x a;obtain⟨y,_,rfl⟩:=gg.1 a;rfl
def ahr{gs}(h:ec gs)(k:Int):OZ (sA gs++[.i k])=some [.r (((gs.take (gs.length-1)).filter (lY k)).map oR)]:=by
 have hn:=h.n8;have qS:=h.n1;refine bJ ?_;refine ew [.r (((gs.take (gs.length-1)).filter (lY k)).map oR)] ?_;refine wp_loop (I:=λa=>∃i:Nat,a=[.i i,.r (((gs.take i).filter (lY k)).map oR)]/\i<=gs.length-1) (mu:=cN gs.length) ⟨0,rfl,om⟩ ?_;rintro a ⟨i,rfl,e1⟩;have wW:=QK (lY k) (gs.take i);rw[dH]at wW;refine bO (dp (i+1<gs.length)) ?_ ?_
 .refine nW ?_;refine Ck i ?_;rw[bA];refine cD rfl (λhc=>?_) (λhc=>bm (fF om));refine bz (tm h).1 ?_;exact bm (er om)
 rintro _ ⟨t,rfl,ht⟩;refine nW ?_;refine jL rfl ht (λhc=>?_) (λhc=>?_);rotate_left
 .refine bm ?_;obtain rfl:i=gs.length-1:=om;rfl
 have hi:i<gs.length:=om;have hg:=(h.ok i hi).1;have nk:=DG hg.mb k;have mi:(gs.take (i+1)).filter (lY k)=(gs.take i).filter (lY k)++[gs[i]].filter (lY k):=by rw[fT hi,acP]
 refine bO (λxs=>xs=[.r (((gs.take (i+1)).filter (lY k)).map oR)]) ?_ ?_
 .refine dx gR i hi ?_
  cases hf:dB gs[i].l k with
  |none=>
   rw[hf]at nk;simp only[pg]at nk;refine bz nk ?_;refine qo rfl (bm ?_);rw[mi,acR (by unfold lY;rw[hf];decide),acS,gd];rfl
  |some y=>
   rw[hf]at nk;simp only[pg]at nk;refine bz nk ?_;refine gY ?_;refine dx gR i hi ?_;refine eI (r:=((gs.take (i+1)).filter (lY k)).map oR) (arq _) rfl (by show(((gs.take i).filter (lY k)).map oR).length<=_;rw[bA];omega) fO dc (by rw[mi,acQ (by unfold lY;rw[hf];rfl),acS,dU];rfl) (nW ?_);exact bm rfl
 .rintro _ rfl;refine nW ?_;refine cj i ?_;exact bm ⟨⟨i+1,rfl,om⟩,dy gs.length i⟩
def Jc{gs}(h:ec gs){e:Ge}(hi:e.n<gs.length)(h':ec (gs.set e.n e)):Ah (sA gs++gz e.gn)=some (.i 0::sA (gs.set e.n e)):=by
 have hn:=h.n8;have qS:=h.n1;refine bJ ?_;refine bR (tm h).1 ?_;refine cu (uR ?_);refine vm (r:=gs.map gR) rfl (tL _) py (by show(gs.map gR).length<=_;rw[bA];omega) dc rfl (nW ?_);refine bO (λxs=>xs=[.b true,.r ((gs.set e.n e).map gR)]) ?_ ?_;rotate_left
 .rintro _ rfl;refine uR ?_;refine cu ?_;refine bR (tm h').2 ?_;refine cu ?_;exact bm rfl
 refine wp_loop (I:=λa=>∃(i:Nat)(c:List Ge),a=[.b (decide (e.n<i)),.i i,.r (c.map gR)]/\i<=gs.length/\c=if e.n<i then gs.set e.n e else gs) (mu:=gX gs.length) ⟨0,gs,rfl,om,(bG om).symm⟩ ?_;rintro a ⟨i,c,rfl,e1,hc⟩;have ja:c.length=gs.length:=by
  rw[hc];split
  .rw[lN]
  .rfl
 refine uR ?_;rw[bA,ja];refine cD rfl (λhx=>?_) (λhx=>?_);rotate_left
 .refine bm ?_;obtain rfl:i=gs.length:=om;rw[bB hi]at hc;rw[hc,decide_eq_true hi];rfl
 have zn:i<c.length:=om;have hig:i<gs.length:=om;have aHg:c[i].n=i:=by
  have hgi:=(h.ok i hig).2.1;by_cases he:e.n<i
  .rw[bB he]at hc;have:c[i]=gs[i]:=by simp only[hc,IK (show e.n≠i by omega)]
   rw[this];exact hgi
  .rw[bG he]at hc;have:c[i]=gs[i]:=by simp only[hc]
   rw[this];exact hgi
 refine bO (λxs=>∃c':List Ge,xs=[.b (decide (e.n<i+1)),.r (c'.map gR)]/\c'=if e.n<i+1 then gs.set e.n e else gs) ?_ ?_
 .refine eR gR i zn ?_;refine ya gR i zn ?_;refine cD rfl (λhq=>?_) (λhq=>?_)
  .have hq:((c[i].n+1:Nat):Int)=((e.n+1:Nat):Int):=hq;obtain rfl:e.n=i:=om;rw[bG om]at hc;subst hc;refine eR gR e.n zn ?_;refine sh (f:=gR) (l:=c) (j:=e.n) (v:=e) rfl rfl zn rfl rfl (nW ?_);refine bm ⟨c.set e.n e,?_,by rw[bB om]⟩;rw[decide_eq_true (show e.n<e.n+1 by omega)];rfl
  .have hq:¬((c[i].n+1:Nat):Int)=((e.n+1:Nat):Int):=hq;have hne:i≠e.n:=om;refine bm ⟨c,?_,?_⟩
   .rw[decide_eq_decide.2 (show e.n<i+1↔e.n<i by omega)];rfl
   .rw[hc];by_cases h3:e.n<i
    .rw[bB h3,bB om]
    .rw[bG h3,bG om]
 .rintro _ ⟨c',rfl,hc'⟩;refine nW ?_;refine cj i ?_;exact bm ⟨⟨i+1,c',rfl,om,hc'⟩,dy gs.length i⟩
def T2{gs}(h:ec gs){b}(a:b=true↔gs.length<8):IV (sA gs)=some [.b b]:=by
 have i:=h.n8;have c:=h.n1;obtain⟨d,e⟩:=uV h;have g:=(mF h).2.1;refine bJ ?_;refine bO (dp (gs.length<8)) ?_ (rB a);refine bz (tm h).1 ?_;refine gY (uR ?_);rw[bA];refine eb (((gs.length-1:Nat):Int)) (by show(gs.length:Int) -1=_;omega) ?_;refine dV (f:=gR) (l:=gs) (j:=gs.length-1) rfl rfl d rfl ?_;rw[e];refine uR ?_;refine bm (fK ?_);show(((df gs).n+1:Nat):Int)<8↔_;omega
def fw(e:Ge):Ge:={e with mode:=2}
def kP(n:Nat):Ge:=⟨n,1,[],0⟩
def fi(gs:List Ge):List Ge:=gs.take (gs.length-1)++[fw (df gs),kP gs.length]
def ayB{gs}(h:ec gs)(c:gs.length<8):G1 (sA gs)=some (.i 0::sA (fi gs)):=by
 have d:=h.n1;obtain⟨g,e⟩:=uV h;have a:=mF h;refine bJ ?_;refine bR (tm h).1 ?_;refine cu ?_;refine bR (T2 h (b:=true) (kx c)) ?_;refine cu (uR ?_);rw[bA];refine eb (((gs.length-1:Nat):Int)) (by show(gs.length:Int) -1=_;omega) ?_;refine dV (f:=gR) (l:=gs) (j:=gs.length-1) rfl rfl g rfl ?_;rw[e];refine uR ?_;refine bz (agT a.1 a.2.2) ?_;refine fg (((gs.length+1:Nat):Int)) (by show(((df gs).n+1:Nat):Int)+1=_;omega) ?_;refine bR (Rf c) ?_;refine nM (n:=((gs.length-1:Nat):Int)) (by show(gs.length:Int) -1=_;omega) om om (uR ?_);rw[bA];refine y6 (r:=(gs.take (gs.length-1)).map gR) ⟨by show(0:Int)<=0;omega,by show(0:Int)<=((gs.length-1:Nat):Int);omega,by show((gs.length-1:Nat):Int).toNat<=(gs.map gR).length;rw[bA];omega,tL gs⟩ (by rw[mo];rfl) (nW ?_);refine vm (r:=(gs.take (gs.length-1)).map gR) rfl (tL _) py (by show((gs.take (gs.length-1)).map gR).length<=_;rw[bA,dH];omega) dc rfl (uR ?_);refine vm (r:=(fi gs).map gR) (tL _) rfl (by show((gs.take (gs.length-1)).map gR).length<=_;rw[bA,dH];omega) (by show(2:Nat)<=_;omega) dc (by unfold fi;rw[dU];rfl) (nW ?_);exact bm rfl
def awN{gs}(h:ec gs)(a:¬gs.length<8):G1 (sA gs)=some [.i 9,.i 0,.i 0,.b false,.r []]:=by
 refine bJ ?_;refine bR (tm h).1 ?_;refine cu ?_;refine bR (T2 h (b:=false) (K0 a)) ?_;refine gY ?_;exact bm rfl
def Xc{n}(h:n<8):fZ (kP n):=⟨h,(by show(1:Int)<=1;omega),(by show(1:Int)<=3;omega),SL.nil,List.Pairwise.nil,λx a=>(by cases a),(by show(0:Int)<=0;omega),(by show(0:Int)%8=0;omega),(by show(16:Int)+de []+0<=17000;rw[show de []=0 from rfl];omega)⟩
def Lb:ec [kP 0]:=⟨dc,dc,λi h=>by
 obtain rfl:i=0:=by have:i<1:=h;omega
 exact⟨Xc dc,rfl,⟨λ_=>rfl,λ_=>rfl⟩⟩⟩
def aiu:LD [.i 1,.i 9000]=some (.i 0::[.i 1,.i 9000,.r ([kP 0].map gR)]):=by
 refine bJ ?_;refine bR (Rf (n:=0) dc) ?_;refine bR (tm Lb).1 ?_;refine cu ?_;exact bm rfl
def azO{gs}(h:ec gs)(d:gs.length<8):ec (fi gs):=by
 have e:=h.n1;have c:=mF h;have hlen:(fi gs).length=gs.length+1:=by unfold fi;simp;omega
 refine⟨om,om,λi f=>?_⟩;have g:i<gs.length+1:=om;have a:∀{y},(fi gs)[i]?=some y->(fi gs)[i]=y:=λh=>by
  rw[db f]at h;exact oc h
 by_cases j:i<gs.length-1
 .have b:(fi gs)[i]=gs[i]:=a (by
   unfold fi;rw[nz (by rw[dH];omega),List.getElem?_take_of_lt j,db])
  have:=h.ok i om;rw[b];refine⟨this.1,this.2.1,?_⟩;rw[this.2.2];omega
 .by_cases l:i=gs.length-1
  .have b:(fi gs)[i]=fw (df gs):=a (by
    unfold fi;rw[kX (by rw[dH];omega),dH,show i-min (gs.length-1) gs.length=0 by omega];rfl)
   rw[b];have:=c.1;refine⟨⟨this.n8,(by show(1:Int)<=2;omega),(by show(2:Int)<=3;omega),this.s,this.cl,this.en,this.g0,this.g8,this.sz⟩,by show(df gs).n=i;omega,⟨λh=>by have h:(2:Int)=1:=h;omega,λh=>by omega⟩⟩
  .have b:(fi gs)[i]=kP gs.length:=a (by
    unfold fi;rw[kX (by rw[dH];omega),dH,show i-min (gs.length-1) gs.length=1 by omega];rfl)
   rw[b];exact⟨Xc d,by show gs.length=i;omega,⟨λ_=>by omega,λ_=>rfl⟩⟩
end
section
open Go.RowKit Pl AI
attribute [local irreducible] bp.wp
attribute [local irreducible] sR
def gj(x:Fl):List PV:=[.sc (.string x.name),.sl x.base,.nl]
def akT{s b}(hb:cC 1 b=true)(hl:b.length<=4294967296):L2 [s,.r b,.r []]=some []:=by
 refine bJ ?_;refine bz (ry hb hl) ?_;refine bz (l:=[]) (show Bv [.r []]=some []from rfl) ?_;refine ew [] ?_;refine wp_loop (I:=λa=>a=[]) (mu:=λ_=>0) rfl ?_;rintro a rfl;refine nW ?_;exact bm rfl
def azI{x:Fl}(h:x.bS=[]):bK x=[.sc (.string x.name),.sl x.base,.sl []]:=by unfold bK;rw[h];rfl
def aen{l:List Fl}(hl:l.length<=1000)(hf:∀x∈l,jU x)(hp:∀x∈l,x.bS=[]){a b}:Mf [a,b,.r (l.map bK)]=some [.r (l.map gj)]:=by
 refine bJ ?_;refine bz (KH om) ?_;refine ew [.r (l.map gj)] ?_;refine uR ?_;rw[bA];refine wp_loop (I:=λa=>∃i:Nat,a=[.i i,.r ((l.take i).map gj++(l.drop i).map bK)]/\i<=l.length) (mu:=cN l.length) ⟨0,rfl,om⟩ ?_;rintro a ⟨i,rfl,e1⟩;refine cz (λhc=>?_) (λhc=>?_);rotate_left
 .refine bm ?_;show[L.r ((l.take i).map gj++(l.drop i).map bK)]=_;rw[eP om,IB om,iC,gd]
 have hi:i<l.length:=om;have hm:=cV hi;have hA:((i:Nat):Int)=(((l.take i).map gj).length:Nat):=by rw[bA,dH,o0 e1]
 rw[uk hi,dE,azI (hp _ hm)];refine BX rfl hA rfl (nW ?_);refine pq rfl hA rfl rfl (nW ?_);refine pq rfl hA rfl rfl (nW ?_);refine pq rfl hA rfl rfl (nW ?_);refine bz (l:=[]) (akT (hf _ hm).1 (hf _ hm).2.1) ?_;refine BX rfl hA rfl (nW ?_);refine Nc (r':=gj l[i]) rfl hA (by show(3:Nat)<=3;omega) rfl (nW ?_);refine cj i ?_;refine bm ⟨⟨i+1,?_,om⟩,?_⟩
 .rw[fT hi,dU,dr];rfl
 .show l.length- ((i+1:Nat):Int).toNat<l.length-i;omega
def akj{A x B s}(h:lV A x B s)(hp:∀y∈A++x::B,y.bS=[]):K_ (dA (A++x::B)++[.s s,.b true])=some [.i (A.length:Nat),.i 0,.i 0,.i (-1),.r ((A++x::B).map gj)]:=by
 refine bJ ?_;refine bz h.open ?_;refine bO (λxs=>xs=[.i (A.length:Nat),.i 0]) ?_ ?_
 .refine dC [.b false] ?_ ?_
  .refine uR ?_;refine bT rfl oO ?_;exact bm rfl
  refine cu ?_;refine dC [.b false] ?_ ?_
  .refine uR ?_;refine c9 rfl rfl (uR ?_);exact bm rfl
  refine cu ?_;exact bm rfl
 rintro _ rfl;refine uR ?_;refine bT rfl (λh=>h rfl) ?_;refine bz (aen (by have:=h.d.len;omega) h.d.qs hp) ?_;refine dC [.i (-1)] ?_ ?_
 .refine uR ?_;refine bT rfl oO ?_;exact bm rfl
 exact bm rfl
def nc(x:Fl)(b:By):Fl:=⟨x.name,x.base,[⟨x.base.length,b,false⟩]⟩
def anr{A x B}{b:By}(d:okF x.base []/\jU ⟨x.name,x.base,[]⟩)(c:okF (nc x b).base (nc x b).bS/\jU (nc x b))(i:b.length<=1048576):KA [.i 0,.i (-1),.r ((A++x::B).map gj),.i (A.length:Nat),.i x.base.length,.r b]=some [.r (A.map gj++bK (nc x b)::B.map gj)]:=by
 have h:=d.1.1;have g:=c.2.2.2.2 _ (kY.2 rfl);have e:=Dp d.2 d.1;have f:=Dp c.2 c.1;have j:(dJ (nc x b).base (nc x b).bS).length<=1048576:=by
  have:=r8 c.1.1 (rR.1 c.1.2) (dz _)
  rwa [jX]at this
 rw[vN];have a:(((A.length:Nat):Int))=((A.map gj).length:Nat):=by rw[bA]
 refine bJ ?_;refine BX rfl a rfl (nW ?_);refine pq (r:=gj x) rfl a rfl rfl (nW ?_);refine pq (r:=gj x) rfl a rfl rfl (nW ?_);refine pq (r:=gj x) rfl a rfl rfl (nW ?_);refine bR e ?_;refine bT rfl om ?_;refine pq (r:=gj x) rfl a rfl rfl (nW ?_);refine bR (ry g.1 g.2) ?_;refine BX (A:=[]) (r:=dD ⟨x.base.length,b,false⟩) (B:=[]) rfl rfl rfl (nW ?_);refine eI (r:=[dD ⟨x.base.length,b,false⟩]) rfl rfl py fO dc rfl (nW ?_);refine Nc (r:=gj x) (r':=bK (nc x b)) rfl a (by show(3:Nat)<=3;omega) rfl (nW ?_);refine pq (r:=bK (nc x b)) rfl a rfl rfl (nW ?_);refine pq (r:=bK (nc x b)) rfl a rfl rfl (nW ?_);refine pq (r:=bK (nc x b)) rfl a rfl rfl (nW ?_);refine bz f ?_;refine dC [.b false] ?_ ?_
 .refine uR ?_;refine bT rfl om (uR ?_);refine cD rfl (λ_=>?_) (λ_=>?_)
  .refine uR ?_;refine bT rfl oO ?_;exact bm rfl
  .exact bm rfl
 refine cu ?_;exact bm rfl
def agR{A x B s}{b:By}(h:lV A x B s)(hp:∀y∈A++x::B,y.bS=[])(g:okF (nc x b).base (nc x b).bS/\jU (nc x b))(i:b.length<=1048576):E3 (dA (A++x::B)++[.s s,.r b])=some [.i 0,.i 0,.i (-1),.r (A.map gj++bK (nc x b)::B.map gj)]:=by
 have a:=h.ok;have c:=hp x ch;have d:okF x.base []/\jU ⟨x.name,x.base,[]⟩:=by
  rw[c]at a;exact⟨a.1,a.2.1,a.2.2.1,fu _,λw j=>by cases j⟩
 have e:sR [.s x.name,.r x.base,.r []]=some [.i x.base.length]:=Dp d.2 d.1;refine bJ (f:=OA) ?_;refine bR (akj h hp) ?_;refine bT rfl (λh=>h rfl) ?_;refine EV (f:=gj) (A:=A) (x:=x) (B:=B) rfl rfl rfl (nW ?_);refine sj (f:=gj) (A:=A) (x:=x) (B:=B) rfl rfl rfl rfl (nW ?_);refine sj (f:=gj) (A:=A) (x:=x) (B:=B) rfl rfl rfl rfl (nW ?_);refine sj (f:=gj) (A:=A) (x:=x) (B:=B) rfl rfl rfl rfl (nW ?_);refine bz e ?_;refine bz (anr d g i) ?_;exact bm rfl
def Vd{l:List Fl}{g:Fl->List PV}(hg:∀x∈l,g x=bK x\/(x.bS=[]/\g x=gj x))(hl:l.length<=1000)(hf:∀x∈l,jU x){a b}:uK [a,b,.r (l.map g)]=some [.r (l.map bK)]:=by
 refine bJ (f:=Ld) ?_;refine ew [.r (l.map bK)] ?_;refine uR ?_;rw[bA];refine wp_loop (I:=λa=>∃i:Nat,a=[.i i,.r ((l.take i).map bK)]/\i<=l.length) (mu:=cN l.length) ⟨0,rfl,om⟩ ?_;rintro a ⟨i,rfl,e1⟩;refine cz (λhc=>?_) (λhc=>?_);rotate_left
 .refine bm ?_;show[L.r ((l.take i).map bK)]=_;rw[eP om]
 have hi:i<l.length:=om;have hm:=cV hi;have nq:=hf _ hm;have hpl:=nq.2.2.1;have hq:∃q:PV,g l[i]=[.sc (.string l[i].name),.sl l[i].base,q]/\Kd.ie.of q=some (.r (l[i].bS.map dD)):=by
  rcases hg _ hm with e| ⟨e1,e⟩
  .exact⟨.sl (l[i].bS.map dD),e,rfl⟩
  .refine⟨.nl,e,?_⟩;rw[e1];rfl
 obtain⟨q,Ia,wN⟩:=hq;refine dV (f:=g) (l:=l) (j:=i) rfl rfl hi (by rw[Ia];rfl) ?_;rw[Ia];refine uR ?_;refine Tt (q:=q) rfl wN (nW ?_);refine bO (λxs=>xs=[.r (l[i].bS.map dD)]) ?_ ?_
 .refine uR ?_;rw[bA];refine wp_loop (I:=λa=>∃j:Nat,a=[.i j,.r ((l[i].bS.take j).map dD)]/\j<=l[i].bS.length) (mu:=cN (l[i].bS.length)) ⟨0,rfl,om⟩ ?_;rintro a ⟨j,rfl,e2⟩;refine cz (λhd=>?_) (λhd=>?_);rotate_left
  .refine bm ?_;show[L.r ((l[i].bS.take j).map dD)]=_;rw[eP om]
  have hj:j<l[i].bS.length:=om;refine dx dD j hj ?_;refine eI (r:=(l[i].bS.take (j+1)).map dD) (OK _) rfl (by show((l[i].bS.take j).map dD).length<=_;rw[bA,dH];omega) fO dc (by rw[fT hj,dU];rfl) (nW ?_);refine cj j ?_;exact bm ⟨⟨j+1,rfl,om⟩,dy (l[i].bS.length) j⟩
 rintro _ rfl;refine uR ?_;refine eI (r:=(l.take (i+1)).map bK) (mT _) rfl (by show((l.take i).map bK).length<=_;rw[bA,dH];omega) fO dc (by rw[fT hi,dU];rfl) (nW ?_);refine cj i ?_;exact bm ⟨⟨i+1,rfl,om⟩,dy l.length i⟩
def Z4{l:List Fl}(hl:l.length<=1000)(hf:∀x∈l,jU x){a b}:Ox [a,b,.r (l.map bK)]=some [.r (l.map bK)]:=by
 refine bJ (f:=S6) ?_;refine ew [.r (l.map bK)] ?_;refine uR ?_;rw[bA];refine wp_loop (I:=λa=>∃i:Nat,a=[.i i,.r ((l.take i).map bK)]/\i<=l.length) (mu:=cN l.length) ⟨0,rfl,om⟩ ?_;rintro a ⟨i,rfl,e1⟩;refine cz (λhc=>?_) (λhc=>?_);rotate_left
 .refine bm ?_;show[L.r ((l.take i).map bK)]=_;rw[eP om]
 have hi:i<l.length:=om;have hm:=cV hi;have nq:=hf _ hm;have hpl:=nq.2.2.1;refine dx bK i hi ?_;refine bO (λxs=>xs=[.r (l[i].bS.map dD)]) ?_ ?_
 .refine uR ?_;rw[bA];refine wp_loop (I:=λa=>∃j:Nat,a=[.i j,.r ((l[i].bS.take j).map dD)]/\j<=l[i].bS.length) (mu:=cN (l[i].bS.length)) ⟨0,rfl,om⟩ ?_;rintro a ⟨j,rfl,e2⟩;refine cz (λhd=>?_) (λhd=>?_);rotate_left
  .refine bm ?_;show[L.r ((l[i].bS.take j).map dD)]=_;rw[eP om]
  have hj:j<l[i].bS.length:=om;refine dx dD j hj ?_;refine eI (r:=(l[i].bS.take (j+1)).map dD) (OK _) rfl (by show((l[i].bS.take j).map dD).length<=_;rw[bA,dH];omega) fO dc (by rw[fT hj,dU];rfl) (nW ?_);refine cj j ?_;exact bm ⟨⟨j+1,rfl,om⟩,dy (l[i].bS.length) j⟩
 rintro _ rfl;refine uR ?_;refine eI (r:=(l.take (i+1)).map bK) (mT _) rfl (by show((l.take i).map bK).length<=_;rw[bA,dH];omega) fO dc (by rw[fT hi,dU];rfl) (nW ?_);refine cj i ?_;exact bm ⟨⟨i+1,rfl,om⟩,dy l.length i⟩
def Rv{l:List Fl}(hl:l.length<=1000)(hf:∀x∈l,jU x){a b}:N3 [a,b,.r (l.map bK)]=some [.r (l.map bK)]:=by
 refine bJ (f:=TU) ?_;refine bz (KH om) ?_;refine ew [.r (l.map bK)] ?_;refine uR ?_;rw[bA];refine wp_loop (I:=λa=>∃i:Nat,a=[.i i,.r (l.map bK)]/\i<=l.length) (mu:=cN l.length) ⟨0,rfl,om⟩ ?_;rintro a ⟨i,rfl,e1⟩;refine cz (λhc=>?_) (λhc=>?_);rotate_left
 .exact bm rfl
 have hi:i<l.length:=om;have nq:=hf _ (cV hi);have hpl:=nq.2.2.1;refine eR bK i hi ?_;refine dP bK i hi ?_;refine dP bK i hi ?_;refine dP bK i hi ?_;refine bz (ry nq.1 nq.2.1) ?_;refine bz (ZA hpl) ?_;refine dC [.r (l[i].bS.map dD)] ?_ ?_
 .refine uR ?_;rw[bA];refine wp_loop (I:=λa=>∃j:Nat,a=[.i j,.r (l[i].bS.map dD)]/\j<=l[i].bS.length) (mu:=cN (l[i].bS.length)) ⟨0,rfl,om⟩ ?_;rintro a ⟨j,rfl,e2⟩;refine cz (λhd=>?_) (λhd=>?_);rotate_left
  .exact bm rfl
  have hj:j<l[i].bS.length:=om;have hw:=nq.2.2.2 _ (cV hj);refine eR dD j hj ?_;refine dP dD j hj ?_;refine dP dD j hj ?_;refine dP dD j hj ?_;refine bz (ry hw.1 hw.2) ?_;refine eR dD j hj ?_;refine mQ (f:=dD) (l:=l[i].bS) (n:=j) rfl rfl hj (by show(2:Nat)<=3;omega) rfl (nW ?_);refine cj j ?_;exact bm ⟨⟨j+1,rfl,om⟩,dy (l[i].bS.length) j⟩
 refine eR bK i hi ?_;refine mQ (f:=bK) (l:=l) (n:=i) rfl rfl hi (by show(3:Nat)<=3;omega) rfl (nW ?_);refine cj i ?_;exact bm ⟨⟨i+1,rfl,om⟩,dy l.length i⟩
def Re{gs:List Ge}(hl:gs.length<=8):WG (sA gs)=some [.r (gs.map gR)]:=by
 have CO:∀g:Gn,JT (gz g)=some []:=λg=>by
  refine bJ ?_;refine du (l:=[]) ?_ rfl rfl (bm rfl);refine bJ ?_;exact bm rfl
 refine bJ (f:=UN) ?_;refine ew [.r (gs.map gR)] ?_;refine uR ?_;rw[bA];refine wp_loop (I:=λa=>∃i:Nat,a=[.i i,.r ((gs.take i).map gR)]/\i<=gs.length) (mu:=cN gs.length) ⟨0,rfl,om⟩ ?_;rintro a ⟨i,rfl,g1⟩;refine cz (λhc=>?_) (λhc=>?_);rotate_left
 .refine bm ?_;show[L.r ((gs.take i).map gR)]=_;rw[eP om]
 have hi:i<gs.length:=om;refine dx gR i hi ?_;refine bR (CO gs[i].gn) ?_;refine vm (r:=(gs.take (i+1)).map gR) (tL _) rfl (by show((gs.take i).map gR).length<=_;rw[bA,dH];omega) fO dc (by rw[fT hi,dU];rfl) (nW ?_);refine cj i ?_;exact bm ⟨⟨i+1,rfl,om⟩,dy gs.length i⟩
def S5{gs:List Ge}(hl:gs.length<=8):MX (sA gs)=some [.r (gs.map gR)]:=by
 have CO:∀g:Gn,KX (gz g)=some []:=λg=>by
  refine bJ ?_;refine du (l:=[]) ?_ rfl rfl (bm rfl);refine bJ ?_;exact bm rfl
 refine bJ (f:=Yl) ?_;refine ew [.r (gs.map gR)] ?_;refine uR ?_;rw[bA];refine wp_loop (I:=λa=>∃i:Nat,a=[.i i,.r ((gs.take i).map gR)]/\i<=gs.length) (mu:=cN gs.length) ⟨0,rfl,om⟩ ?_;rintro a ⟨i,rfl,g1⟩;refine cz (λhc=>?_) (λhc=>?_);rotate_left
 .refine bm ?_;show[L.r ((gs.take i).map gR)]=_;rw[eP om]
 have hi:i<gs.length:=om;refine dx gR i hi ?_;refine bR (CO gs[i].gn) ?_;refine vm (r:=(gs.take (i+1)).map gR) (tL _) rfl (by show((gs.take i).map gR).length<=_;rw[bA,dH];omega) fO dc (by rw[fT hi,dU];rfl) (nW ?_);refine cj i ?_;exact bm ⟨⟨i+1,rfl,om⟩,dy gs.length i⟩
def Yk{gs:List Ge}(h:ec gs):LM (sA gs)=some [.r (gs.map gR)]:=by
 have hl:=h.n8;refine bJ (f:=SD) ?_;refine bz (l:=[]) (show D1 [.r (gs.map gR)]=some []from bB ⟨tL _,by rw[bA];omega⟩) ?_;refine ew [.r (gs.map gR)] ?_;refine uR ?_;rw[bA];refine wp_loop (I:=λa=>∃i:Nat,a=[.i i,.r (gs.map gR)]/\i<=gs.length) (mu:=cN gs.length) ⟨0,rfl,om⟩ ?_;rintro a ⟨i,rfl,g1⟩;refine cz (λhc=>?_) (λhc=>?_);rotate_left
 .exact bm rfl
 have hi:i<gs.length:=om;have hs:=(h.ok i hi).1.s;have cli:∀s,mc [.r ((dY gs[i].l s).map bu)]=some []:=λs=>bB ⟨gD _,by
  have h1:=Hu gs[i].l s;have h2:=hs.len;rw[bA];omega⟩
 refine eR gR i hi ?_;refine dP gR i hi ?_;refine bz (cli _) ?_;refine mQ (f:=gR) (l:=gs) (n:=i) rfl rfl hi (by show(5:Nat)<=14;omega) rfl (nW ?_);refine dP gR i hi ?_;refine bz (cli _) ?_;refine mQ (f:=gR) (l:=gs) (n:=i) rfl rfl hi (by show(6:Nat)<=14;omega) rfl (nW ?_);refine dP gR i hi ?_;refine bz (cli _) ?_;refine mQ (f:=gR) (l:=gs) (n:=i) rfl rfl hi (by show(7:Nat)<=14;omega) rfl (nW ?_);refine dP gR i hi ?_;refine bz (cli _) ?_;refine mQ (f:=gR) (l:=gs) (n:=i) rfl rfl hi (by show(8:Nat)<=14;omega) rfl (nW ?_);refine dP gR i hi ?_;refine bz (cli _) ?_;refine mQ (f:=gR) (l:=gs) (n:=i) rfl rfl hi (by show(9:Nat)<=14;omega) rfl (nW ?_);refine dP gR i hi ?_;refine bz (cli _) ?_;refine mQ (f:=gR) (l:=gs) (n:=i) rfl rfl hi (by show(10:Nat)<=14;omega) rfl (nW ?_);refine dP gR i hi ?_;refine bz (cli _) ?_;refine mQ (f:=gR) (l:=gs) (n:=i) rfl rfl hi (by show(11:Nat)<=14;omega) rfl (nW ?_);refine dP gR i hi ?_;refine bz (cli _) ?_;refine mQ (f:=gR) (l:=gs) (n:=i) rfl rfl hi (by show(12:Nat)<=14;omega) rfl (nW ?_);refine cj i ?_;exact bm ⟨⟨i+1,rfl,om⟩,dy gs.length i⟩
def pw(x:Fl):List PV:=[.sc (.string x.name)]
def alQ{l:List Fl}(h:kG l):M9 (dA l)=some [.r (l.map pw)]:=by
 have hl:=h.len;obtain⟨b,hb⟩:=fA (jm ⟨0,-1,l⟩);have hv:=yA h.f hb;rw[hb.2 h.d]at hv;refine bJ ?_;refine bR hv ?_;refine cu ?_;refine ew [.r (l.map pw)] ?_;refine uR ?_;rw[bA];refine wp_loop (I:=λa=>∃i:Nat,a=[.i i,.r ((l.take i).map pw)]/\i<=l.length) (mu:=cN l.length) ⟨0,rfl,om⟩ ?_;rintro a ⟨i,rfl,e1⟩;refine cz (λhc=>?_) (λhc=>?_);rotate_left
 .refine bm ?_;show[L.r ((l.take i).map pw)]=_;rw[eP om]
 have hi:i<l.length:=om;refine dx bK i hi ?_;refine eI (r:=(l.take (i+1)).map pw) (Zi (f:=pw) (n:=1) (λ_=>rfl) _) rfl (by show((l.take i).map pw).length<=_;rw[bA,dH];omega) fO dc (by rw[fT hi,dU];rfl) (nW ?_);refine cj i ?_;exact bm ⟨⟨i+1,rfl,om⟩,dy l.length i⟩
def agM{l:List Fl}(hl:l.length<=1000){s:gh}(h:∀x∈l,(x.name.toList==s.toList)=false):HJ [.r (l.map pw),.s s]=some [.b false]:=by
 have hi:I5 [.r (l.map pw),.s s]=some [.i (-1)]:=by
  refine bJ ?_;refine ew [] ?_;refine uR ?_;rw[bA];refine wp_loop (I:=λa=>∃i:Nat,a=[.i i]/\i<=l.length) (mu:=cN l.length) ⟨0,rfl,om⟩ ?_;rintro a ⟨i,rfl,e1⟩;refine cz (λhc=>?_) (λhc=>?_);rotate_left
  .exact bm rfl
  have hi:i<l.length:=om;have hx:=h _ (cV hi);refine dx pw i hi ?_;refine mP (l:=.b false) (by
   show some (L.b (s.toList==l[i].name.toList))=_;rw[beq_eq_false_iff_ne.2 λe=>by rw[e]at hx;exact absurd (beq_self_eq_true _) (by rw[hx];decide)]) (nW ?_)
  refine cu ?_;refine cj i ?_;exact bm ⟨⟨i+1,rfl,om⟩,dy l.length i⟩
 refine bJ ?_;refine bR hi ?_;exact bm (by show[L.b (decide ((-1:Int)>=0))]=_;rw[decide_eq_false om])
def ahM{A x B s}(h:lV A x B s):Ht (dA (A++x::B)++[.s s])=some [.i (dJ x.base x.bS).length,.i 0]:=by
 have a:=h.ok;refine bJ ?_;refine bR h.open ?_;refine bT rfl (λh=>h rfl) ?_;refine EV (f:=bK) (A:=A) (x:=x) (B:=B) rfl rfl rfl (uR ?_);refine bz (Dp a.2 a.1) ?_;exact bm rfl
def ayw{A x B s}(h:lV A x B s){n:Nat}(a:n=(dJ x.base x.bS).length):tC (dA (A++x::B)++[.s s,.i 0,.i n])=some [.i 0,.r (dJ x.base x.bS)]:=by
 have b:Wh ⟨0,-1,A++x::B⟩ s (dJ x.base x.bS):=⟨h.d.d,h.n,(by show(-1:Int)≠0;omega),A.length,h.at,by
  show _=dJ ((A++x::B)[A.length]'_).base ((A++x::B)[A.length]'_).bS;rw[Hw]⟩
 have:=((anb h.d.f h.z).1 _ b 0 (n:Int)).2 (by unfold lE;omega);rw[show((0:Int)+(n:Int)).toNat=n by omega,a,jX]at this;rw[a];exact this
end
section
open Go.RowKit Pl AI
attribute [local irreducible] bp.wp
def kj(A B:List Fl)(g:Fl)(i:Nat):List Fl:=A.take i++if A.length<i then g::B.take (i-A.length)else[]
def pB(A B:List Fl)(g:Fl)(i:Nat):List Fl:=A.take i++if A.length<=i then g::B.take (i-A.length)else[]
def akM{A B g i}(b:i< (A++B).length):pB A B g i++[(A++B)[i]]=kj A B g (i+1):=by
 unfold pB kj;by_cases h:A.length<=i
 .have c:i-A.length<B.length:=by rw[cw]at b;omega
  rw[bB h,bB om,eP (l:=A) h,eP (l:=A) (show A.length<=i+1 by omega),uq h,show i+1-A.length=(i-A.length)+1 by omega,fT c];simp
 .have a:i<A.length:=om;rw[bG h,bG om,gd,gd,w9 a,<-fT a]
def asx{A B g i}:(kj A B g i).length<=A.length+B.length+1:=by
 unfold kj;split<;>simp only[cw,dH,h_,jW]<;>omega
def azo{A B g i}:(pB A B g i).length<=A.length+B.length+1:=by
 unfold pB;split<;>simp only[cw,dH,h_,jW]<;>omega
def aqP(c l:L)(A B:List Fl)(g:Fl)(hn:A.length+B.length<=1000000)(hA:∀x∈A,x.name.toList<g.name.toList)(hB:∀x∈B,g.name.toList<x.name.toList):
 LV [c,l,.r ((A++B).map bK),.s g.name,.r g.base,.r (g.bS.map dD)]=some [.r ((A++g::B).map bK)]:=by
 have hl:(A++B).length=A.length+B.length:=cw;refine bJ ?_;refine bO (λxs=>xs=[.b (decide (A.length<A.length+B.length)),.r ((kj A B g (A.length+B.length)).map bK)]) ?_ ?_;rotate_left
 .rintro _ rfl;refine nW ?_;refine ew [.r ((A++g::B).map bK)] ?_;refine uR ?_;refine tw rfl decide_eq_true_iff (λh=>?_) (λh=>?_)
  .have h0:B.length=0:=om;have e:kj A B g (A.length+B.length)=A:=by
    unfold kj;rw[bG h,gd,eP om]
   rw[e];refine uR ?_;refine eI (r:=(A++[g]).map bK) (mT A) rfl (by show(A.map bK).length<=_;rw[bA];omega) fO dc (by show List.map bK A++List.map bK [g]=_;rw[<-dU]) (nW ?_);refine bm ?_;rw[nu h0];rfl
  .refine bm ?_;show[L.r ((kj A B g (A.length+B.length)).map bK)]=_;unfold kj;rw[bB h,eP om,eP om]
 refine wp_loop (I:=λa=>∃i:Nat,a=[.b (decide (A.length<i)),.i i,.r ((kj A B g i).map bK)]/\i<=A.length+B.length) (mu:=gX (A.length+B.length)) ⟨0,?_,om⟩ ?_
 .show[L.b false,L.i 0,L.r []]=_;rw[decide_eq_false om];unfold kj;rw[bG om];rfl
 rintro a ⟨i,rfl,e1⟩;have kn:=asx (A:=A) (B:=B) (g:=g) (i:=i);have wR:=azo (A:=A) (B:=B) (g:=g) (i:=i);refine uR ?_;rw[bA,hl];refine cD rfl (λhc=>?_) (λhc=>?_);rotate_left
 .obtain rfl:i=A.length+B.length:=om;exact bm rfl
 have hi:i< (A++B).length:=om;obtain⟨x,hx⟩:∃x,(A++B)[i]=x:=⟨_,rfl⟩
 have hge:Op.bytesLess x.name.toList g.name.toList=decide (i<A.length):=by
  rw[kK,vd,decide_eq_true_iff];constructor
  .intro h;by_cases P9:i<A.length
   .exact P9
   .rw[uq om]at hx;have:=hB x (by rw[<-hx];exact cV _);exact absurd (zO h this) (mq _)
  .intro h;rw[w9 h]at hx;exact hA x (by rw[<-hx];exact cV _)
 have hne:(x.name.toList==g.name.toList)=false:=by
  refine beq_false_of_ne λe=>?_
  by_cases P9:i<A.length
  .rw[w9 P9]at hx;have:=hA x (by rw[<-hx];exact cV _);rw[e]at this;exact mq _ this
  .rw[uq om]at hx;have:=hB x (by rw[<-hx];exact cV _);rw[e]at this;exact mq _ this
 refine bO (λxs=>xs=[.b (decide (A.length<i+1)),.r ((kj A B g (i+1)).map bK)]) ?_ ?_;rotate_left
 .rintro _ rfl;refine nW ?_;refine cj i ?_;exact bm ⟨⟨i+1,rfl,om⟩,dy (A.length+B.length) i⟩
 refine bO (λxs=>xs=[.b (decide (A.length<=i)),.r ((pB A B g i).map bK)]) ?_ ?_
 .refine bO (dp (i=A.length)) ?_ ?_
  .refine uR ?_;refine tw rfl decide_eq_true_iff (λh=>?_) (λh=>bm (fF om));refine dV (f:=bK) (j:=i) rfl rfl hi rfl ?_;rw[hx];refine uR ?_;refine mP (l:=.b (!decide (i<A.length))) (by show some (L.b (!(Op.bytesLess x.name.toList g.name.toList)))=_;rw[hge]) (nW ?_);exact bm (qt om)
  .rintro _ ⟨t,rfl,ht⟩;refine nW ?_;refine jL rfl ht (λh=>?_) (λh=>?_)
   .refine uR ?_;refine eI (r:=(pB A B g i).map bK) (mT _) rfl (by show((kj A B g i).map bK).length<=_;rw[bA];omega) fO dc ?_ (nW ?_)
    .show(kj A B g i).map bK++[bK g]=_;unfold kj pB;rw[bG om,bB om,h,uh,gd,dU];rfl
    .refine bm ?_;rw[decide_eq_true (show A.length<=i by omega)];rfl
   .refine bm ?_;have e:kj A B g i=pB A B g i:=by
     unfold kj pB;by_cases h2:A.length<i
     .rw[bB h2,bB om]
     .rw[bG h2,bG om]
    show[L.b (decide (A.length<i)),L.r ((kj A B g i).map bK)]=_;rw[e,decide_eq_decide.2 (show A.length<i↔A.length<=i by omega)]
 .rintro _ rfl;refine nW ?_;refine dV (f:=bK) (j:=i) rfl rfl hi rfl ?_;rw[hx];refine uR ?_;refine mP (l:=.b true) (by show some (L.b (!(x.name.toList==g.name.toList)))=_;rw[hne];rfl) (nW ?_);refine gY ?_;refine dV (f:=bK) (j:=i) rfl rfl hi rfl ?_;rw[hx];refine uR ?_;refine eI (r:=(kj A B g (i+1)).map bK) (mT _) rfl (by show((pB A B g i).map bK).length<=_;rw[bA];omega) fO dc (by rw[<-akM hi,hx];show List.map bK (pB A B g i)++List.map bK [x]=_;rw[<-dU]) (nW ?_);refine bm ?_;rw[decide_eq_decide.2 (show A.length<i+1↔A.length<=i by omega)];rfl
def Tx:okB []:=⟨λx a=>(by cases a),dc⟩
def aiV{f}(p:dG f){j}(a:j<72)(h:f j=none):Aa (dA (cT f)++[.s (nm j)])=some (.i 0::dA (cT (cq f j (some [])))):=by
 have c:=aom p;have hlen:(cT f).length<=72:=rh f 72 0;obtain⟨e,q,t⟩:=HI c.2 (Bp j);obtain rfl:e=0:=t.2 ⟨c.1,Bq a,by show(-1:Int)≠0;omega⟩;have l:=D4 (d:=⟨0,-1,cT f⟩) (s:=nm j) (by show(cT f).length<=_;omega) (r:= -1) (λi u=>by obtain⟨v,o,_⟩:=u;rw[afD a h i v]at o;cases o) (λ_=>rfl);refine bJ ?_;refine bR q ?_;refine bT rfl oO ?_;refine bR l ?_;refine bT rfl oO ?_;refine uR ?_;rw[bA];refine bT rfl om ?_;refine bz (Gv (.i 0) (cT f) om) ?_;have w:(eo f j).length<=j:=rh f j 0;have y:(kB f j).length<=71-j:=rh f _ _;have g:=aqP (.i 0) (.i (-1)) (eo f j) (kB f j) (fU j []) om
  (λx m=>by
   obtain⟨i,b,z,A,_,rfl⟩:=oF m;show(nm i).toList< (nm j).toList;rw[mU,mU];exact se om a)
  (λx m=>by
   obtain⟨i,b,z,A,_,rfl⟩:=oF m;show(nm j).toList< (nm i).toList;rw[mU,mU];exact se om om)
 rw[<-VZ a h]at g;refine bz g ?_;refine bm ?_;rw[Xm a];rfl
def agh{f}(m:dG f){j}(g:j<72){b}(h:f j=some b):Aa (dA (cT f)++[.s (nm j)])=some [.i 7,.i 0,.i 0,.r []]:=by
 have o:=uu g (m j b h);have a:=F2 m o;have hlen:=AG f g (fU j b);rw[zR g h];obtain⟨e,q,t⟩:=HI a.2 (Bp j);obtain rfl:e=0:=t.2 ⟨a.1,Bq g,by show(-1:Int)≠0;omega⟩;have c:=Nw (f:=f) o;have l:=D4 (d:=D9 f j (fU j b)) (s:=nm j) (by show(eV f j _).length<=_;omega) (r:=(eo f j).length) (λi u=>by rw[u.uniq c]) (λv=>by obtain⟨w,p,_⟩:=c;rw[v _ w]at p;cases p);refine bJ ?_;refine bR q ?_;refine bT rfl oO ?_;refine bR l ?_;refine c9 rfl om ?_;exact bm rfl
def TI(s:gh){b:List Nat}(a:okB b):o_ [.s s,.r (b.map b1),.r []]=some [.r (b.map b1)]:=
 (BZ (f:=⟨s,b.map b1,[]⟩) ⟨oW b,by show(b.map b1).length<=_;rw[bA];have:=a.2;omega,fu _,λw c=>by cases c⟩ (s:=s)).1 ⟨by show(b.map b1).length<=_;rw[bA];exact a.2,trivial⟩
def mJ(j:Nat)(b x:List Nat):Fl:=⟨nm j,b.map b1,[⟨b.length,x.map b1,false⟩]⟩
def ED(b x:List Nat):iG (b.map b1) ⟨b.length,x.map b1,false⟩=(b++x).map b1:=by
 unfold iG;rw[bG (λh=>by cases h)];show((b.map b1)++List.replicate (b.length- (b.map b1).length) jv).take b.length++x.map b1++(b.map b1).drop (b.length+(x.map b1).length)=_;rw[bA,uh,List.replicate_zero,gd,eP (by rw[bA];omega),sJ (by rw[bA,bA];omega),gd,dU]
def TR{j}(c:j<72){b x}(a:okB b)(d:okB x)(h:(b++x).length<=1048576):rS j (mJ j b x):=by
 have f:=a.2;have g:=d.2;refine⟨c,rfl,⟨by show(b.map b1).length<=_;rw[bA];exact a.2,⟨⟨by show(0:Int)<=(b.length:Int);omega,by show(b.length:Int)<=_;omega,λh=>by cases h.1⟩,?_,trivial⟩⟩,⟨oW b,by show(b.map b1).length<=_;rw[bA];omega,by show(1:Nat)<=_;omega,λw e=>?_⟩⟩
 .show(iG (b.map b1) ⟨b.length,x.map b1,false⟩).length<=_;rw[ED,bA];exact h
 .rw[kY.1 e];exact⟨oW x,by show(x.map b1).length<=_;rw[bA];omega⟩
def Sw{f j}{g h:Fl}:(eV f j g).set (eo f j).length h=eV f j h:=by
 unfold eV;rw[QI _ _ (dz _),uh,QJ]
def adG{f j}(g:j<72){b x}(e:okB b)(i:okB x)(h:(b++x).length<=1048576):
 Nn (dA (eV f j (fU j b))++[.i (eo f j).length,.i b.length,.r (x.map b1),.b false])=some (.i 0::dA (eV f j (mJ j b x))):=by
 have l:=e.2;have o:=i.2;have hlen:=AG f g (fU j b);have hp:=TR g e i h;rw[cw]at h;have d:=(BZ (f:=mJ j b x) hp.hf (s:=nm j)).1 hp.hb;rw[show dJ (mJ j b x).base (mJ j b x).bS=(b++x).map b1 from ED b x]at d;refine bJ ?_;refine dV (f:=bK) (j:=(eo f j).length) rfl rfl (o6 f j _) rfl ?_;rw[Be];refine uR ?_;refine bR (TI (nm j) e) ?_;rw[bA,bA];refine iU (n:=(b.length:Int)+x.length) rfl om om (uR ?_);refine bT rfl om ?_;refine uR ?_;refine fM (a:=[]) (c:=x) rfl rfl (fu _) om (uR ?_);refine eI (r:=[]) rfl rfl py py dc rfl (uR ?_);refine eI (r:=[[.sc (.int .i64 b.length),.sl (x.map b1),.sc (.bool false)]]) rfl rfl py fO dc rfl (nW ?_);refine nN (m:=b++x) d rfl rfl (uR ?_);rw[bA,cw];refine eb x.length (by show((b.length+x.length:Nat):Int) - (b.length:Int)=x.length;omega) ?_;refine dC [.b false] ?_ ?_
 .refine uR ?_;refine bT rfl oO ?_;exact bm rfl
 refine cu ?_;refine bz (Gv (.i 0) (eV f j (fU j b)) om) ?_;refine dV (f:=bK) (j:=(eo f j).length) rfl rfl (o6 f j _) rfl (nW ?_);refine sh (f:=bK) (j:=(eo f j).length) (v:=mJ j b x) rfl rfl (o6 f j _) rfl rfl ?_;rw[Sw];refine nW ?_;exact bm rfl
def adp{f}(d:dG f){j}(c:j<72){b x}(e:f j=some b)(g:okB x)(h:(b++x).length<=1048576):
 KO (dA (cT f)++[.s (nm j),.r (x.map b1)])=some (.i 0::dA (eV f j (mJ j b x))):=by
 have a:=d j b e;rw[zR c e];refine bJ ?_;refine bR (I8 d (uu c a)) ?_;refine bT rfl oO ?_;refine dV (f:=bK) (j:=(eo f j).length) rfl rfl (o6 f j _) rfl ?_;rw[Be];refine uR ?_;refine bR (TI (nm j) a) ?_;rw[bA];refine bz (adG c a g h) ?_;exact bm rfl
def anw{f}(d:dG f){j}(c:j<72){b x}(e:okB b)(g:okB x)(h:(b++x).length<=1048576):
 MZ (dA (eV f j (mJ j b x))++[.s (nm j)])=some (.i 0::dA (cT (cq f j (some (b++x))))):=by
 have hp:=TR c e g h;have hlen:=AG f c (mJ j b x);have a:=(BZ (f:=mJ j b x) hp.hf (s:=nm j)).1 hp.hb;rw[show dJ (mJ j b x).base (mJ j b x).bS=(b++x).map b1 from ED b x]at a;rw[Xm c];refine bJ ?_;refine bR (I8 d hp) ?_;refine bT rfl oO ?_;refine bz (Gv (.i 0) (eV f j (mJ j b x)) om) ?_;refine dV (f:=bK) (j:=(eo f j).length) rfl rfl (o6 f j _) rfl (nW ?_)
 repeat refine gy (f:=bK) (l:=eV f j (mJ j b x)) (j:=(eo f j).length) rfl rfl (o6 f j _) (by rw[Be];rfl) rfl (nW ?_)
 refine bz a ?_;refine dV (f:=bK) (j:=(eo f j).length) rfl rfl (o6 f j _) rfl (nW ?_);refine sh (f:=bK) (j:=(eo f j).length) (v:=fU j (b++x)) rfl rfl (o6 f j _) rfl rfl ?_;rw[Sw];refine nW ?_;exact bm rfl
def gP(f:Fs)(j:Nat):List Nat:=match f j with|some b=>b|none=>[]
def xh{f}(p:dG f){j}(q:j<72){x}(t:okB x)(h:(gP f j++x).length<=1048576)(u v w z A:L):
 r4 (dA (cT f)++[u,v,w,z,A,.s (nm j),.r (x.map b1)])=some (dA (cT (cq f j (some (gP f j++x)))))/\r4 (dA (cT f)++[u,v,w,z,A,.s (nm j),.r (x.map b1)])=some (dA (cT (cq f j (some (gP f j++x))))):=by
 obtain⟨d,g,B,C,D⟩:∃d:Fs,dG d/\d j=some (gP f j)/\(∃e,Aa (dA (cT f)++[.s (nm j)])=some e/\((d=f/\e=[.i 7,.i 0,.i 0,.r []])\/e=.i 0::dA (cT d)))/\cq d j (some (gP f j++x))=cq f j (some (gP f j++x)):=by
  cases c:f j with
  |none=>
   refine⟨cq f j (some []),p.cq λy E=>by cases E;exact Tx,by rw[gN];unfold gP;rw[c],⟨_,aiV p q c,.inr rfl⟩,?_⟩;funext i;by_cases e:i=j
   .subst e;rw[gN,gN]
   .rw[dN e,dN e,dN e]
  |some b=>exact⟨f,p,by unfold gP;rw[c],⟨_,agh p q c,.inl ⟨rfl,rfl⟩⟩,rfl⟩
 obtain⟨e,r,a⟩:=C;have s:okB (gP f j):=g j _ B;have m:=adp g q B t h;have o:=m;have l:=anw g q s t h;rw[D]at l;constructor
 .refine bJ ?_;refine dC (dA (cT d)) ?_ ?_
  .rcases a with⟨rfl,rfl⟩|rfl
   .refine bR r ?_;refine bT rfl oO ?_;exact bm rfl
   .refine bR r ?_;refine c9 rfl rfl ?_;exact bm rfl
  refine bz m ?_;refine bz l ?_;exact bm rfl
 .refine bJ ?_;refine dC (dA (cT d)) ?_ ?_
  .rcases a with⟨rfl,rfl⟩|rfl
   .refine bR r ?_;refine bT rfl oO ?_;exact bm rfl
   .refine bR r ?_;refine c9 rfl rfl ?_;exact bm rfl
  refine bz o ?_;refine bz l ?_;exact bm rfl
def apj{f}(d:dG f){j}(a:j<72){b}(e:f j=some b):Ko (dA (cT f)++[.s (nm j)])=some (.i 0::dA (cT (cq f j none))):=by
 have g:=uu a (d j b e);have hlen:=AG f a (fU j b);have h:=o6 f j (fU j b);rw[zR a e,arE a];have c:(eV f j (fU j b)).take (eo f j).length=eo f j:=by unfold eV;rw[zQ]
 have iV:(eV f j (fU j b)).drop ((eo f j).length+1)=kB f j:=by
  unfold eV;rw[show eo f j++fU j b::kB f j=(eo f j++[fU j b])++kB f j by simp];exact Qz ch
 refine bJ ?_;refine bR (I8 d g) ?_;refine bT rfl oO ?_;refine bR (Gv (.i 0) (eV f j (fU j b)) om) ?_;refine lK ⟨by show(0:Int)<=0;omega,by show(0:Int)<=((eo f j).length:Int);omega,by show(eo f j).length<=((eV f j (fU j b)).map bK).length;rw[bA];omega,kQ (mT _)⟩ (nW ?_);refine kh (ls:=[.r ((eo f j).map bK)]) ?_ (nW ?_)
 .show some [L.r ((((eV f j (fU j b)).map bK).drop 0).take (eo f j).length)]=_;rw[sI,<-mo,c]
 have i:(eo f j).length<=j:=rh f j 0;have l:(kB f j).length<=71-j:=rh f _ _;refine vm (r:=(eo f j).map bK) rfl (mT _) (fu _) (by show((eo f j).map bK).length<=_;rw[bA];omega) dc rfl (nW ?_);refine iU (n:=(((eo f j).length+1:Nat):Int)) rfl om om (uR ?_);rw[bA];refine lK ⟨by show(0:Int)<=(((eo f j).length+1:Nat):Int);omega,by show(((eo f j).length+1:Nat):Int)<=((eV f j (fU j b)).length:Int);omega,by show(eV f j (fU j b)).length<=((eV f j (fU j b)).map bK).length;rw[bA];omega,kQ (mT _)⟩ (nW ?_);refine kh (ls:=[.r ((kB f j).map bK)]) ?_ (nW ?_)
 .show some [L.r ((((eV f j (fU j b)).map bK).drop ((eo f j).length+1)).take ((eV f j (fU j b)).length- ((eo f j).length+1)))]=_;rw[<-o2,iV,eP];rw[bA,<-iV,jE];omega
 refine vm (r:=(eo f j++kB f j).map bK) (mT _) (mT _) (by show((eo f j).map bK).length<=_;rw[bA];omega) (by show((kB f j).map bK).length<=_;rw[bA];omega) dc (by show(eo f j).map bK++(kB f j).map bK=_;rw[<-dU]) (nW ?_);exact bm rfl
def NR{f}(d:dG f){j}(c:j<72){b}(e:f j=some b):uX (dA (cT f)++[.s (nm j)])=some [.r (b.map b1),.i 0]:=by
 have g:=uu c (d j b e);have a:=F2 d g;rw[zR c e];refine(axD a.2 (Bp j)).1 _ ⟨a.1,Bq c,(by show(-1:Int)≠0;omega),_,Nw g,?_⟩;show _=dJ ((eV f j (fU j b))[(eo f j).length]'_).base ((eV f j (fU j b))[(eo f j).length]'_).bS;rw[Be];rfl
def mH(j:Nat):List UInt8:=l9 (j/2)++cond (Nat.beq (j%2) 1) [46,116,109,112] []
def eL(j:Nat):gh:=⟨(mH j).toArray⟩
def mW(j):(eL j).toList=mH j:=by rw[Lib.toList_data];rfl
def D_(j:Nat):eL (2*j)=nm j:=by
 unfold eL nm mH;rw[show 2*j/2=j by omega,show 2*j%2=0 by omega];show ByteArray.mk (l9 j++[]).toArray=_;rw[gd]
def amM:(List.range 144).all (λj=>(mH j).all λc=>Fc c.toNat)=true:=kr
def amH:(List.range 143).all (λj=>Op.bytesLess (mH j) (mH (j+1)))=true:=kr
def LP(j):1<=(mH j).length/\(mH j).length<=13:=by
 have:=GW (j/2);unfold mH;rw[cw]
 cases Nat.beq (j%2) 1 with
 |true=>show 1<=_+4/\_+4<=13;omega
 |false=>show 1<=_+0/\_+0<=13;omega
def Og(j):(eL j).size=(mH j).length:=by
 show(mH j).toArray.size=_;rw[kW]
def FH(j):(eL j).size<=4611686018427387904:=by
 have:=LP j;rw[Og];omega
def FK{j}(a:j<144):gG (eL j):=by
 refine⟨λi b h=>?_,?_,?_⟩
 .rw[chars]at h;have c:b∈mH j:=eN h;have d:=cI.1 (cI.1 amM j (ku.2 a)) b c;simp only[Fc,pZ,cF,Nat.ble_eq,Nat.beq_eq]at d;unfold lA;omega
 .rw[Og];exact(LP j).1
 .rw[Og];have:=(LP j).2;omega
def sf:∀{b a:Nat},a<b->b<144->mH a<mH b
 |0,_,h,_=>om
 |b+1,a,h,d=>by
  have c:=(vd _ _).1 (cI.1 amH b (ku.2 om));by_cases e:a=b
  .subst e;exact c
  .exact zO (sf (b:=b) om om) c
def aBH{a b}(h:a≠b)(c:a<144)(d:b<144):((eL a).toList==(eL b).toList)=false:=by
 rw[mW,mW];rcases acN h with h|h
 .exact beq_false_of_ne λe=>by have:=sf h d;rw[e]at this;exact mq _ this
 .exact beq_false_of_ne λe=>by have:=sf h c;rw[e]at this;exact mq _ this
def qb(j:Nat)(b:List Nat):Fl:=⟨eL j,b.map b1,[]⟩
def gw(f:Fs):Nat->Nat->List Fl
 |_,0=>[]
 |lo,n+1=>(match f lo with|some b=>[qb lo b]|none=>[])++gw f (lo+1) n
def uv(f):∀n lo,(gw f lo n).length<=n
 |0,_=>dz 0
 |n+1,lo=>by
  have:=uv f n (lo+1);rw[gw,cw]
  cases f lo with
  |none=>simp only[jW];omega
  |some b=>simp only[w8];omega
def mM{f x}:∀{n lo},x∈gw f lo n->∃j b,lo<=j/\j<lo+n/\f j=some b/\x=qb j b
 |0,_,h=>by cases h
 |n+1,lo,h=>by
  rw[gw]at h;rcases iP.1 h with h|h
  .cases a:f lo with
   |none=>rw[a]at h;cases h
   |some b=>rw[a]at h;exact⟨lo,b,om,om,a,kY.1 h⟩
  .obtain⟨j,b,e,g,c,d⟩:=mM h;exact⟨j,b,om,om,c,d⟩
def Hg(f):∀m n lo,gw f lo (m+n)=gw f lo m++gw f (lo+m) n
 |0,n,lo=>by rw[kp,lL];rfl
 |m+1,n,lo=>by
  rw[show m+1+n=(m+n)+1 by omega,gw,gw,Hg f m n (lo+1),dr,show lo+1+m=lo+(m+1)by omega]
def A9{f g:Fs}:∀{n lo},(∀j,lo<=j->j<lo+n->f j=g j)->gw f lo n=gw g lo n
 |0,_,_=>rfl
 |n+1,lo,h=>by
  rw[gw,gw,h lo om om,A9 (n:=n) (lo:=lo+1) λj a b=>h j om om]
def ka(f:Fs)(j:Nat):List Fl:=gw f 0 j
def kc(f:Fs)(j:Nat):List Fl:=gw f (j+1) (143-j)
def dv(f:Fs):List Fl:=gw f 0 144
def Rj{f j}(a:j<144):dv f=ka f j++((match f j with|some b=>[qb j b]|none=>[])++kc f j):=by
 unfold dv ka kc;rw[show(144:Nat)=j+((143-j)+1)by omega,Hg,kp,gw]
def YA{f j b}:ka (cq f j b) j=ka f j:=A9 λi _ h=>dN om
def ZO{f j b}:kc (cq f j b) j=kc f j:=A9 λi h _=>dN om
abbrev lx(f:Fs)(j:Nat)(g:Fl):List Fl:=ka f j++g::kc f j
def yO{f j b}(a:j<144)(h:f j=some b):dv f=lx f j (qb j b):=by rw[Rj a,h];rfl
def An{f j}(a:j<144)(h:f j=none):dv f=ka f j++kc f j:=by rw[Rj a,h];rfl
def Pr{f j b}(a:j<144):dv (cq f j (some b))=lx f j (qb j b):=by
 rw[yO a gN,lx,lx,YA,ZO]
def aqB{f j}(a:j<144):dv (cq f j none)=ka f j++kc f j:=by
 rw[An a gN,YA,ZO]
structure rX(j:Nat)(g:Fl):Prop where
 hj:j<144
 hn:g.name=eL j
 hb:okF g.base g.bS
 hf:jU g
def sV{j}(c:j<144){b}(a:okB b):rX j (qb j b):=
 ⟨c,rfl,⟨by show(b.map b1).length<=_;rw[bA];exact a.2,trivial⟩,oW b,by show(b.map b1).length<=_;rw[bA];have:=a.2;omega,fu _,λw d=>by cases d⟩
def afk{f}(d:dG f){j g}(a:rX j g){x}(e:x∈lx f j g):∃i,rX i x:=by
 rcases iP.1 e with h|h
 .obtain⟨i,b,l,m,c,rfl⟩:=mM h;exact⟨i,sV (by have:=a.hj;omega) (d i b c)⟩
 .rcases fh.1 h with rfl|h
  .exact⟨j,a⟩
  .obtain⟨i,b,l,m,c,rfl⟩:=mM h;exact⟨i,sV (by have:=a.hj;omega) (d i b c)⟩
def aop(f){j}(a:j<144)(g):(lx f j g).length<=144:=by
 have b:=uv f j 0;have c:=uv f (143-j) (j+1);show(ka f j++g::kc f j).length<=144;unfold ka kc;rw[cw,h_];omega
abbrev VK(f:Fs)(j:Nat)(g:Fl):Dk:=⟨0,-1,lx f j g⟩
def D6(f):∀n lo,lo+n<=144->(gw f lo n).Pairwise λx y=>x.name.toList<y.name.toList
 |0,_,_=>List.Pairwise.nil
 |n +1,lo,h=>by
  rw[gw];refine II.2 ⟨?_,D6 f n (lo+1) om,λx a y e=>?_⟩
  .cases f lo with
   |none=>exact List.Pairwise.nil
   |some b=>exact acO _ _
  .obtain⟨j,b,g,i,_,rfl⟩:=mM e
   cases d:f lo with
   |none=>rw[d]at a;cases a
   |some c=>
    rw[d]at a;rw[kY.1 a];show(eL lo).toList< (eL j).toList;rw[mW,mW];exact sf om om
def akI{f j g}(d:rX j g):(lx f j g).Pairwise λx y=>x.name.toList<y.name.toList:=by
 have m:=d.hj;refine II.2 ⟨D6 f j 0 om,iE.2 ⟨λy a=>?_,D6 f _ _ om⟩,λx e y a=>?_⟩
 .obtain⟨i,b,h,l,_,rfl⟩:=mM a;rw[d.hn];show(eL j).toList< (eL i).toList;rw[mW,mW];exact sf om om
 .obtain⟨i,b,h,l,_,rfl⟩:=mM e;show(eL i).toList<_;rcases fh.1 a with rfl|a
  .rw[d.hn,mW,mW];exact sf om om
  .obtain⟨k,c,o,p,_,rfl⟩:=mM a;show _< (eL k).toList;rw[mW,mW];exact sf om om
def UK{l:List Fl}(f:l.length<=144)(c:∀x∈l,∃i,rX i x)(d:l.Pairwise λx y=>x.name.toList<y.name.toList):jm ⟨0,-1,l⟩/\la ⟨0,-1,l⟩:=by
 refine⟨⟨⟨by show(0:Int)<=0;omega,by show(-1:Int)<=-1;omega,by show l.length<=256;omega⟩,λi b=>?_⟩,⟨by show l.length<=_;omega,λx e=>?_⟩⟩
 .obtain⟨k,a⟩:=c _ (cV b);refine⟨⟨by show gG (l[i]).name;rw[a.hn];exact FK a.hj,a.hb⟩,λg=>?_⟩;exact Y2 (lM.1 d (i-1) i (by have:i<l.length:=b;omega) b om)
 .obtain⟨k,a⟩:=c x e;exact⟨a.hf,by rw[a.hn];exact FH k⟩
def Wj{f}(b:dG f){j g}(a:rX j g):jm (VK f j g)/\la (VK f j g):=
 UK (aop f a.hj g) (λ_ c=>afk b a c) (akI a)
def Na{f}(a:dG f):jm ⟨0,-1,dv f⟩/\la ⟨0,-1,dv f⟩:=
 UK (uv f 144 0) (λx c=>by obtain⟨i,b,_,e,d,rfl⟩:=mM c;exact⟨i,sV om (a i b d)⟩) (D6 f 144 0 om)
def M6{e:Fs}(a:dG e){J g}(b:rX J g):kG (lx e J g):=⟨(Wj a b).1,(Wj a b).2⟩
def jP{e:Fs}(a:dG e):kG (dv e):=⟨(Na a).1,(Na a).2⟩
def NL(e:Fs){J}(c:J<144):vM (ka e J) (kc e J) (eL J):=by
 refine⟨FK c,FH J,λx a=>?_,λx a=>?_⟩
 .obtain⟨i,b,d,f,_,rfl⟩:=mM a;show(eL i).toList< (eL J).toList;rw[mW,mW];exact sf om c
 .obtain⟨i,b,d,f,_,rfl⟩:=mM a;show(eL J).toList< (eL i).toList;rw[mW,mW];exact sf om om
def yu{e:Fs}(b:dG e){J g}(a:rX J g):lV (ka e J) g (kc e J) (eL J):=⟨FK a.hj,FH J,M6 b a,a.hn⟩
def anF{e:Fs}{J b}:∀x∈lx e J (qb J b),x.bS=[]:=λx a=>by
 rcases iP.1 a with h|h
 .obtain⟨j,b,_,_,_,rfl⟩:=mM h;rfl
 .rcases fh.1 h with rfl|h
  .rfl
  .obtain⟨j,b,_,_,_,rfl⟩:=mM h;rfl
def avm{e:Fs}(c:dG e){J}(b:J<144)(h:e J=none):Jm (dA (dv e)++[.s (eL J)])=some (.i 0::dA (dv (cq e J (some [])))):=by
 have d:(dv e).length<=144:=uv e 144 0;have a:=jP c;rw[An b h]at d a;have:=aqy (NL e b) a om;rw[An b h,this,Pr b];rfl
def ayC{e:Fs}(c:dG e){J}(a:J<144){b}(h:e J=some b):Cl (dA (dv e)++[.s (eL J)])=some (.i 0::dA (dv (cq e J none))):=by
 have:=agr (yu c (sV a (c J b h)));rw[yO a h,this,aqB a]
def lR(J:Nat)(x:List Nat):Fl:=⟨eL J,[],[⟨0,x.map b1,false⟩]⟩
def VQ(J)(x:List Nat):dJ (lR J x).base (lR J x).bS=x.map b1:=by
 have:=ED [] x;rw[kZ]at this;exact this
def FL{J}(a:J<144){x:List Nat}(b:okB x):rX J (lR J x):=by
 have c:=b.2;refine⟨a,rfl,⟨fu _,⟨⟨by show(0:Int)<=0;omega,by show(0:Int)<=_;omega,λh=>by cases h.1⟩,?_,trivial⟩⟩,⟨rfl,fu _,by show(1:Nat)<=_;omega,λw d=>?_⟩⟩
 .show(dJ (lR J x).base (lR J x).bS).length<=_;rw[VQ,bA];exact c
 .rw[kY.1 d];exact⟨oW x,by show(x.map b1).length<=_;rw[bA];omega⟩
def Ds(e:Fs)(J:Nat)(x:List Nat):List (List PV):=(ka e J).map gj++bK (lR J x)::(kc e J).map gj
def akm{e:Fs}(c:dG e){J}(a:J<144)(h:e J=some []){x}(d:okB x):E3 (dA (dv e)++[.s (eL J),.r (x.map b1)])=some [.i 0,.i 0,.i (-1),.r (Ds e J x)]:=by
 have hp:=FL a d;have:=agR (b:=x.map b1) (yu c (sV a (c J [] h))) anF ⟨hp.hb,hp.hf⟩ (by rw[bA];exact d.2);rw[yO a h,this];rfl
def aBy{e:Fs}(m:dG e){J}(o:J<144){x}(p:okB x){a b}:uK [a,b,.r (Ds e J x)]=some [.r ((lx e J (lR J x)).map bK)]:=by
 have c:=M6 m (FL o p);obtain⟨g,f⟩:∃g:Fl->List PV,g=λy=>if y.bS.isEmpty=true then gj y else bK y:=⟨_,rfl⟩
 have i:∀y:Fl,y.bS=[]->g y=gj y:=λy d=>by rw[f];show ite _ _ _=_;rw[d];exact bB rfl
 have l:∀lo n,(gw e lo n).map gj=(gw e lo n).map g:=λlo n=>ia λy d=>by
  obtain⟨j,b,_,_,_,rfl⟩:=mM d;exact(i _ rfl).symm
 have q:Ds e J x=(lx e J (lR J x)).map g:=by
  rw[vN];show(ka e J).map gj++bK (lR J x)::(kc e J).map gj=_;rw[show(ka e J).map gj=(ka e J).map g from l _ _,show(kc e J).map gj=(kc e J).map g from l _ _];have r:g (lR J x)=bK (lR J x):=by rw[f];exact bG (show¬false=true by decide)
  rw[r]
 rw[q];refine Vd (λy d=>?_) (by have:=c.len;omega) c.qs;by_cases h:y.bS=[]
 .exact .inr ⟨h,i y h⟩
 .refine .inl ?_;rw[f];show ite _ _ _=_;rw[bG (by rw[Qx];exact h)]
def qf{l:List Fl}(h:kG l){a b}:uK [a,b,.r (l.map bK)]=some [.r (l.map bK)]:=Vd (λ_ _=>.inl rfl) (by have:=h.len;omega) h.qs
def axy{e:Fs}(b:dG e){J}(a:J<144){x}(c:okB x):OM (dA (lx e J (lR J x))++[.s (eL J)])=some (.i 0::dA (dv (cq e J (some x)))):=by
 have:=aDO (yu b (FL a c));rw[VQ]at this;rw[this,Pr a];rfl
def WY{e:Fs}(d:dG e){j}(t:j<72){b}(h:e (2*j+1)=some b)(l:e (2*j)=none):Hf (dA (dv e)++[.s (eL (2*j+1)),.s (eL (2*j))])=some (.i 0::dA (dv (cq (cq e (2*j+1) none) (2*j) (some b)))):=by
 have m:2*j+1<144:=om;have a:2*j<144:=om;have f:dG (cq e (2*j+1) none):=d.cq λx r=>by cases r
 have g:cq e (2*j+1) none (2*j)=none:=by rw[dN om];exact l
 have o:=NL (cq e (2*j+1) none) a;have p:ka (cq e (2*j+1) none) (2*j)=ka e (2*j+1):=by
  unfold ka;rw[Hg e (2*j) 1 0,kp,show gw e (2*j) 1=[]by rw[gw,gw,l];rfl,gd];exact A9 λi _ s=>dN om
 have q:kc (cq e (2*j+1) none) (2*j)=kc e (2*j+1):=by
  unfold kc;rw[show 143-2*j=1+(143- (2*j+1))by omega,Hg,show gw (cq e (2*j+1) none) (2*j+1) 1=[]by rw[gw,gw,gN];rfl,kZ];exact A9 λi s _=>dN om
 have c:=jP f;rw[An a g]at c;rw[p,q]at o c;have:=aln (yu d (sV m (d _ b h))) o c;rw[yO m h,this,Pr a];show _=some (L.i 0::dA (ka (cq e (2*j+1) none) (2*j)++qb (2*j) b::kc (cq e (2*j+1) none) (2*j)));rw[p,q];rfl
def aDE{e:Fs}{J}(c:J<144)(h:e J=none):HJ [.r ((dv e).map pw),.s (eL J)]=some [.b false]:=by
 have f:(dv e).length<=144:=uv e 144 0;refine agM om λx d=>?_
 obtain⟨i,b,g,j,a,rfl⟩:=mM d;exact aBH (λq=>by subst q;rw[h]at a;cases a) om c
def ajt{e:Fs}(a:dG e){J}(c:J<144){b}(h:e J=some b):Ht (dA (dv e)++[.s (eL J)])=some [.i b.length,.i 0]:=by
 have:=ahM (yu a (sV c (a J b h)));rw[yO c h,this];show some [L.i ((b.map b1).length:Nat),L.i 0]=_;rw[bA]
def afJ{e:Fs}(a:dG e){J}(c:J<144){b}(h:e J=some b):tC (dA (dv e)++[.s (eL J),.i 0,.i b.length])=some [.i 0,.r (b.map b1)]:=by
 have:=ayw (yu a (sV c (a J b h))) (n:=b.length) (by show _=(b.map b1).length;rw[bA]);rw[yO c h,this];rfl
def kv(f:Fs):Fs:=λj=>if j%2=0 then f (j/2)else none
def tG(f:Fs)(j):kv f (2*j)=f j:=by unfold kv;rw[bB om,show 2*j/2=j by omega]
def Bm(f:Fs)(j):kv f (2*j+1)=none:=bG om
def YD(f:Fs):∀n lo,gw (kv f) (2*lo) (2*n)=iJ f lo n
 |0,_=>rfl
 |n+1,lo=>by
  rw[show 2*(n+1)=(2*n+1)+1 by omega,gw,gw,iJ,tG,Bm,show 2*lo+1+1=2*(lo+1)by omega,YD f n (lo+1)]
  cases f lo with
  |none=>rfl
  |some b=>
   show[qb (2*lo) b]++([]++_)=[fU lo b]++_;unfold qb fU;rw[D_];rfl
def tK(f:Fs):dv (kv f)=cT f:=YD f 72 0
def dG.kv{f:Fs}(h:dG f):dG (kv f):=λj b a=>by
 unfold Go.Proofs.YtiikkkhcolcebaaGreatDoor.kv at a;split at a
 .exact h _ b a
 .cases a
end
section
open Go.RowKit AI
attribute [local irreducible] bp.wp
def YL:=rG VR [(336,LL)]
def Xy:Gk YL tV:=rK [(336,yG)] ⟨cP rfl XZ,trivial⟩
end
def apK:(List.range 112).all (λj=>x5 (YL [.i 1,.i (j%8+1:Nat),.i (j/8%7:Nat),.b (Nat.beq (j/56) 1)]) [.s (eL (2*(9*(j%8)+(2+j/8%7))+j/56))])=true:=kr
def Dy{n k t:Nat}(a:n<8)(b:k<7)(c:t<2):tV [.i 1,.i (n+1:Nat),.i k,.b (Nat.beq t 1)]=some [.s (eL (2*(9*n+(2+k))+t))]:=by
 have:=Xy _ _ (tF (cI.1 apK _ (ku.2 (show t*56+k*8+n<112 by omega))))
 rwa [show(t*56+k*8+n)%8=n by omega,show(t*56+k*8+n) /8%7=k by omega,show(t*56+k*8+n) /56=t by omega]at this
def Y0{n:Nat}(a:n<8):tu [.i 1,.i 1,.i (n+1:Nat)]=some [.s (eL (2*(9*n)))]:=by
 rw[D_];exact auC (t:=0) a dc dc
section
variable{d0 d1 d2 s1 s2 s3 v7 v9 v10 v11 v12 v13 v14 v15 v16 v17 v18 v19 v20 v21:L}{n k:Nat}
def xi(a:n<8)(b:k<7):uw [d0,d1,d2,.i 1,s1,s2,s3,v7,.i (n+1:Nat),v9,v10,v11,v12,v13,v14,v15,v16,v17,v18,v19,v20,v21,.i k,.b true]=some [.s (eL (2*(9*n+(2+k))+1))]:=by
 refine bJ ?_;refine bz (Dy (t:=1) a b dc) ?_;exact bm rfl
def Tp(a:n<8)(b:k<7):uw [d0,d1,d2,.i 1,s1,s2,s3,v7,.i (n+1:Nat),v9,v10,v11,v12,v13,v14,v15,v16,v17,v18,v19,v20,v21,.i k,.b false]=some [.s (eL (2*(9*n+(2+k))))]:=by
 refine bJ ?_;refine bz (Dy (t:=0) a b dc) ?_;exact bm rfl
end
section
open Go.RowKit Pl AI
open Classical
attribute [local irreducible] bp.wp
def gK{b p q r:List Nat}{a c}(e:b=p++(q++r))(d:p.length=a)(f:a+q.length=c):cQ b a c=q:=by
 subst e d f;unfold cQ;rw[List.drop_take,List.drop_left,show p.length+q.length-p.length=q.length by omega,zQ]
def aeH{a g r}(h:0<=a/\a<4/\1<=g/\g<=8/\0<=r/\r<4294967296){x}(i:B8 x)(s:x.length<=2097152):J1 [.r ((il a g r++x).map b1)]=some [.i 0,.i a,.i g,.i r]:=by
 obtain⟨b,d⟩:∃b,il a g r++x=b:=⟨_,rfl⟩
 have e:b=[78,86,79,76]++(num a 2++(num g 2++(num r 4++(d_ (eQ a g r)++x)))):=by rw[<-d];simp[il,fl,eQ]
 have f:=dk a 2;have j:=dk g 2;have u:=dk r 4;have c1:cQ b 0 4=[78,86,79,76]:=gK (p:=[]) e rfl rfl;have c2:cQ b 4 6=num a 2:=gK e rfl om;have c3:cQ b 6 8=num g 2:=gK (p:=[78,86,79,76]++num a 2) (by rw[e,<-dr]) (by rw[cw,f];rfl) om;have c4:cQ b 8 12=num r 4:=gK (p:=[78,86,79,76]++num a 2++num g 2) (by rw[e,<-dr,<-dr]) (by rw[cw,cw,f,j];rfl) om;have c5:cQ b 0 12=eQ a g r:=gK (p:=[]) (r:=d_ (eQ a g r)++x) (by rw[e];simp[eQ]) rfl (by rw[sP]);have c6:cQ b 12 16=d_ (eQ a g r):=gK (p:=eQ a g r) (r:=x) (by rw[e];simp[eQ]) (sP _ _ _) rfl;have v:B8 b:=by rw[<-d];exact im (vr _ _ _) i
 have m:b.length=16+x.length:=by rw[<-d,cw,qB]
 have o:=λp q=>Gz b p q
 rw[d];refine gp ?_;rw[bA];refine bT rfl om ?_;refine uR ?_;refine gx (a:=0) (c:=4) rfl rfl rfl om om ?_;show bp.wp _ (_++[L.r ((cQ b 0 4).map b1)]) _;rw[c1];refine nW ?_;refine qY (l:=[78,86,79,76]) rfl (nW ?_);refine zS (a:=[78,86,79,76]) (b:=[78,86,79,76]) (t:=false) rfl (by rfl) (by unfold B8;decide) (by unfold B8;decide) ch (nW ?_);refine cu ?_;refine uR ?_;refine gx (a:=0) (c:=12) rfl rfl rfl om om ?_;show bp.wp _ (_++[L.r ((cQ b 0 12).map b1)]) _;rw[c5];refine nW ?_;refine bz (yN (eQ a g r) (by rw[sP];omega)) ?_;refine qY rfl (uR ?_);refine gx (a:=12) (c:=16) rfl rfl rfl om om ?_;show bp.wp _ (_++[L.r ((cQ b 12 16).map b1)]) _;rw[c6];refine nW ?_;refine qY rfl (nW ?_);refine zS (a:=d_ (eQ a g r)) (b:=d_ (eQ a g r)) (t:=false) rfl rfl (Bj _) (Bj _) ch (nW ?_);refine cu ?_;refine uR ?_;refine gx (a:=4) (c:=6) rfl rfl rfl om om ?_;show bp.wp _ (_++[L.r ((cQ b 4 6).map b1)]) _;rw[c2];refine nW ?_;refine bz (M4 _ (iu a 2) om) ?_;refine pH (n:=a) (wv a 2 om om (by show a<65536;omega)) om om (uR ?_);refine gx (a:=6) (c:=8) rfl rfl rfl om om ?_;show bp.wp _ (_++[L.r ((cQ b 6 8).map b1)]) _;rw[c3];refine nW ?_;refine bz (M4 _ (iu g 2) om) ?_;refine pH (n:=g) (wv g 2 om om (by show g<65536;omega)) om om (uR ?_);refine gx (a:=8) (c:=12) rfl rfl rfl om om ?_;show bp.wp _ (_++[L.r ((cQ b 8 12).map b1)]) _;rw[c4];refine nW ?_;refine bz (M4 _ (iu r 4) om) ?_;refine pH (n:=r) (wv r 4 om om (by show r<4294967296;omega)) om om (nW ?_);refine bR (Ng a g r (b:=true) ⟨λ_=>h,λ_=>rfl⟩) ?_;refine cu ?_;exact bm rfl
def fq(x:It):List Nat:=num x.key 8++num x.cookie 4++num x.off 4++num x.size 4
def eU(l:List It):List Nat:=l.flatMap λx=>fl (fq x)
def xP(x):(fq x).length=20:=by simp[fq,dk]
def awO(x):B8 (fq x):=im (im (im (iu _ _) (iu _ _)) (iu _ _)) (iu _ _)
def Ew(x)(l):eU (x::l)=fl (fq x)++eU l:=by simp[eU]
def ta:∀l,(eU l).length=24*l.length
 |[]=>rfl
 |x::l=>by
  rw[Ew,cw,rq,xP,ta l,h_];omega
def RF:∀l,B8 (eU l)
 |[]=>λx a=>by cases a
 |x::l=>by rw[Ew];exact im (r6 (awO x)) (RF l)
def pK(x:It):Prop:=0<=x.key/\x.key<18446744073709551616/\0<=x.cookie/\x.cookie<4294967296
def ahW{x}(h:pK x)(c:ff x=true)(r):xV (fl (fq x)++r)=x:=by
 have g:=xI c;obtain⟨d,i,f,j⟩:=h;obtain⟨b,a⟩:∃b,fl (fq x)++r=b:=⟨_,rfl⟩
 have e:b=num x.key 8++(num x.cookie 4++(num x.off 4++(num x.size 4++(d_ (fq x)++r)))):=by rw[<-a];simp[fl,fq]
 have c1:b.take 8=num x.key 8:=by
  have:=gK (p:=[]) e rfl (show 0+(num x.key 8).length=8 by rw[dk]);simpa[cQ]using this
 have c2:(b.take 12).drop 8=num x.cookie 4:=gK e (dk _ _) (by rw[dk]);have c3:(b.take 16).drop 12=num x.off 4:=gK (p:=num x.key 8++num x.cookie 4) (by rw[e,<-dr]) (by rw[cw,dk,dk]) (by rw[dk]);have c4:(b.take 20).drop 16=num x.size 4:=gK (p:=num x.key 8++num x.cookie 4++num x.off 4) (by rw[e,<-dr,<-dr]) (by rw[cw,cw,dk,dk,dk]) (by rw[dk]);rw[a];unfold xV;rw[c1,c2,c3,c4,wv x.key 8 d om (by show x.key<18446744073709551616;omega),wv x.cookie 4 f om (by show x.cookie<4294967296;omega),qa x.off 4 om om (by show x.off<4294967296;omega) om,qa x.size 4 om om (by show x.size<4294967296;omega) om];rw[yZ .u32 (by simp[IntKind.min,IntKind.signed];omega) (by simp[IntKind.max,IntKind.signed,IntKind.bits];omega)]
def X0:∀{l acc f},(eU l).length<f->(∀x∈l,pK x/\ff x=true)->dec f (eU l) acc=if VL (acc++l)then[.i 0,.r ((acc++l).map bu)]else[.i 3,.r []]
 |[],acc,f,h,_=>by
  cases f with
  |zero=>cases h
  |succ f=>
   rw[dec,bB (show eU []=[]from rfl),gd]
 |x::l,acc,f,h,c=>by
  cases f with
  |zero=>cases h
  |succ f=>
   have b:=c x jg;have d:=ta l;have a:(fl (fq x)).length=24:=by rw[rq,xP]
   rw[Ew,cw,a]at h;have hit:=ahW b.1 b.2 (eU l);have iV:(fl (fq x)++eU l).drop 24=eU l:=by rw[<-a,List.drop_left]
   have e:fl (fq x)++eU l=fq x++(d_ (fq x)++eU l):=by simp[fl]
   have k1:(fl (fq x)++eU l).take 20=fq x:=by rw[e,<-xP x,zQ]
   have k2:((fl (fq x)++eU l).take 24).drop 20=d_ (fq x):=gK e (xP x) (by rw[oh]);rw[Ew,dec,bG (by intro e;have:=cW List.length e;rw[cw,a]at this;simp at this),bG (by rw[cw,a];omega),bG (by rw[k1,k2];exactλh=>h rfl),iV,hit,X0 om λy g=>c y (je _ g),dr];rfl
def ic(c:Nat->Int)(i:Nat):List Nat:=(List.range i).flatMap λk=>num (c k) 4
def xL(c)(i):ic c (i+1)=ic c i++num (c i) 4:=by unfold ic;rw[ID,acM];simp
def sU(c):∀i,(ic c i).length=4*i
 |0=>rfl
 |i+1=>by rw[xL,cw,sU c i,dk];omega
def UM(c):∀i,B8 (ic c i)
 |0=>λx a=>by cases a
 |i+1=>by rw[xL];exact im (UM c i) (iu _ _)
def lp(a g r n:Int)(c:Nat->Int)(l:List It):List Nat:=[78,73,68,88]++num a 2++num g 2++num r 4++num n 8++ic c 6++num l.length 4++eU l
def iY(a g r n:Int)(c:Nat->Int)(l:List It):List Nat:=fl (lp a g r n c l)
def xv(a g r n)(c)(l):(lp a g r n c l).length=48+24*l.length:=by simp[lp,dk,sU,ta];omega
def HK(a g r n)(c)(l):B8 (lp a g r n c l):=im (im (im (im (im (im (im (by unfold B8;decide) (iu _ _)) (iu _ _)) (iu _ _)) (iu _ _)) (UM _ _)) (iu _ _)) (RF l)
def aap(c):∀{i k},k<i->∃r,ic c i=ic c k++(num (c k) 4++r)
 |0,k,h=>om
 |i+1,k,h=>by
  by_cases e:k=i
  .subst e;exact⟨[],by rw[xL,gd]⟩
  .obtain⟨r,a⟩:=aap c (i:=i) (k:=k) om;exact⟨r++num (c i) 4,by rw[xL,a];simp⟩
def axb{a g r n:Int}{c:Nat->Int}{l:List It}(d:jV a g r n l)(y:∀k,0<=c k/\c k<4294967296)(z:∀x∈l,pK x)(F:l.length<=1000):
 A0 (iY a g r n c l)=[.i 0,.i a,.i g,.i r,.i n,.i (c 0),.i (c 1),.i (c 2),.i (c 3),.i (c 4),.i (c 5),.r (l.map bu)]:=by
 obtain⟨b,m⟩:∃b,iY a g r n c l=b:=⟨_,rfl⟩
 obtain⟨h,o⟩:∃h,lp a g r n c l=h:=⟨_,rfl⟩
 have s:h.length=48+24*l.length:=by rw[<-o];exact xv _ _ _ _ _ _
 have t:b=h++(d_ h++[]):=by rw[<-m,<-o];simp[iY,fl]
 have e:b=[78,73,68,88]++(num a 2++(num g 2++(num r 4++(num n 8++(ic c 6++(num l.length 4++(eU l++d_ h))))))):=by rw[<-m,<-o];simp[iY,fl,lp]
 have u:b.length=52+24*l.length:=by rw[t,cw,s,gd,oh];omega
 have i:=d.2.2.2.1;have A:=d.1;have B:=d.2.1;have C:=d.2.2.1;have sl:=sU c 6;have c0:cQ b 0 4=[78,73,68,88]:=gK (p:=[]) e rfl rfl;have c1:cQ b 4 6=num a 2:=gK e rfl (by rw[dk]);have c2:cQ b 6 8=num g 2:=gK (p:=[78,73,68,88]++num a 2) (by rw[e,<-dr]) (by simp[dk]) (by rw[dk]);have c3:cQ b 8 12=num r 4:=gK (p:=[78,73,68,88]++num a 2++num g 2) (by rw[e,<-dr,<-dr]) (by simp[dk]) (by rw[dk]);have c4:cQ b 12 20=num n 8:=gK (p:=[78,73,68,88]++num a 2++num g 2++num r 4) (by rw[e,<-dr,<-dr,<-dr]) (by simp[dk]) (by rw[dk]);have c5:cQ b 44 48=num l.length 4:=gK (p:=[78,73,68,88]++num a 2++num g 2++num r 4++num n 8++ic c 6) (by rw[e,<-dr,<-dr,<-dr,<-dr,<-dr]) (by simp[dk,sl]) (by rw[dk]);have c6:cQ b 48 (b.length-4)=eU l:=gK (p:=[78,73,68,88]++num a 2++num g 2++num r 4++num n 8++ic c 6++num l.length 4) (r:=d_ h) (by rw[e];simp) (by simp[dk,sl]) (by rw[ta,u];omega);have c7:cQ b 0 (b.length-4)=h:=gK (p:=[]) t rfl om;have c8:cQ b (b.length-4) b.length=d_ h:=gK t om (by rw[oh];omega);have cs:∀k,k<6->gQ b k=c k:=λk D=>by
  obtain⟨q,E⟩:=aap c D;have:=gK (p:=[78,73,68,88]++num a 2++num g 2++num r 4++num n 8++ic c k) (q:=num (c k) 4) (r:=q++(num l.length 4++(eU l++d_ h))) (b:=b) (a:=20+4*k) (c:=24+4*k) (by rw[e,E];simp) (by simp[dk,sU];omega) (by rw[dk];omega);have v:=y k;unfold gQ;rw[this,wv (c k) 4 v.1 om v.2];exact yZ .u32 (by simp[IntKind.min,IntKind.signed];omega) (by simp[IntKind.max,IntKind.signed,IntKind.bits];omega)
 have j:(val (cQ b 44 48)).toInt=l.length:=by rw[c5];exact qa _ 4 om om (by show(l.length:Int)<4294967296;omega) om
 have G:Ap b=b.length:=by
  unfold Ap;rw[j,wrap64 (n:=24*(l.length:Int)) om om,wrap64 om om];omega
 have hdec:=X0 (l:=l) (acc:=[]) (f:=(eU l).length+1) (p0 _) λx w=>⟨z x w,i.2 x w⟩
 rw[kZ,bB i]at hdec;rw[m];unfold A0;rw[bG om,bG (λh=>h c0),bG om,bG om,c7,c8,bG (λh=>h rfl),c6,hdec,c1,c2,c3,c4,cs 0 om,cs 1 om,cs 2 om,cs 3 om,cs 4 om,cs 5 om];rw[qa a 2 om om (by show a<65536;omega) om,qa g 2 om om (by show g<65536;omega) om,qa r 4 om om (by show r<4294967296;omega) om,qa n 8 om om (by show n<18446744073709551616;omega) om];simp only[ne_eq,not_true_eq_false,if_false];rw[bB (XX.2 d)]
end
section
open Go.RowKit Pl AI
attribute [local irreducible] bp.wp
def Rb(l)(x):eU (l++[x])=eU l++fl (fq x):=by simp[eU]
def aAV{l:List It}(hv:VL l)(hE:∀x∈l,pK x)(hl:l.length<=1000):NT [.r (l.map bu)]=some [.i 0,.r ((eU l).map b1)]:=by
 refine bJ ?_;refine bR (Kj l om (kx hv)) ?_;refine cu ?_;refine ew [.r ((eU l).map b1)] ?_;refine wp_loop (I:=λa=>∃i:Nat,a=[.i i,.r ((eU (l.take i)).map b1)]/\i<=l.length) (mu:=cN l.length) ⟨0,rfl,om⟩ ?_;rintro a ⟨i,rfl,e1⟩;refine uR ?_;rw[bA];refine cD rfl (λhc=>?_) (λhc=>?_);rotate_left
 .refine bm ?_;show[L.r ((eU (l.take i)).map b1)]=_;rw[eP om]
 have hi:i<l.length:=om;have hx:=hE _ (cV hi);have hb:=xI (hv.2 _ (cV hi));have CP:=ta (l.take i);rw[dH]at CP;have mi:=fT hi;obtain⟨x,uf⟩:∃x,l[i]=x:=⟨_,rfl⟩
 rw[uf]at hx hb mi;obtain⟨h1,h2,h3,h4⟩:=hx;have l1:=dk x.key 8;have l2:=dk x.cookie 4;have l3:=dk x.off 4;have l4:=dk x.size 4;refine dV (f:=bu) (j:=i) rfl rfl hi rfl ?_;rw[uf];refine uR ?_;refine bz (kS x.key 8 om om) ?_;refine dV (f:=bu) (j:=i) rfl rfl hi rfl ?_;rw[uf];refine uR ?_;refine iw x.cookie rfl ?_;refine bz (kS x.cookie 4 om om) ?_;refine fM (a:=num x.key 8) (c:=num x.cookie 4) rfl rfl om om (nW ?_);refine dV (f:=bu) (j:=i) rfl rfl hi rfl ?_;rw[uf];refine uR ?_;refine iw x.off rfl ?_;refine bz (kS x.off 4 om om) ?_;refine fM (a:=num x.key 8++num x.cookie 4) (c:=num x.off 4) rfl rfl (by rw[cw];omega) om (nW ?_);refine dV (f:=bu) (j:=i) rfl rfl hi rfl ?_;rw[uf];refine uR ?_;refine iw x.size rfl ?_;refine bz (kS x.size 4 om om) ?_;refine fM (a:=num x.key 8++num x.cookie 4++num x.off 4) (c:=num x.size 4) rfl rfl (by rw[cw,cw];omega) om ?_;show bp.wp _ (_++[L.r ((fq x).map b1)]) _;have kH:=xP x;refine nW ?_;refine fM (a:=eU (l.take i)) (c:=fq x) rfl rfl om om (nW ?_);refine nN (m:=d_ (fq x)) (yN (fq x) om) rfl rfl (nW ?_);refine fM (a:=eU (l.take i)++fq x) (c:=d_ (fq x)) rfl rfl (by rw[cw];omega) (by rw[oh];omega) (nW ?_);refine cj i ?_;refine bm ⟨⟨i+1,?_,om⟩,?_⟩
 .rw[mi,Rb];show[L.i _,L.r ((eU (l.take i)++fq x++d_ (fq x)).map b1)]=[L.i _,L.r ((eU (l.take i)++(fq x++d_ (fq x))).map b1)]
  rw[dr]
 .show l.length- ((i+1:Nat):Int).toNat<l.length-i;omega
abbrev cA(c:Nat->Int):List L:=[.i (c 0),.i (c 1),.i (c 2),.i (c 3),.i (c 4),.i (c 5)]
def VU{c:Nat->Int}{i:Nat}(g:i<6){a b d e:L}{f Q k xs}{x:At}(h:(x.ev (a::b::d::e::(cA c++f))).br=i)(j:k.wp (a::b::d::e::(cA c++f)++[.i (c i)]) Q)(l:xs=w 4 6:=by rfl):(bp.op (.ix xs x) k).wp (a::b::d::e::(cA c++f)) Q:=by
 subst l;have:∃y:At,(w 4 6)[i]?=some y/\y.ev (a::b::d::e::(cA c++f))=.i (c i):=by
  match i,g with
  |0,_=>exact⟨_,rfl,rfl⟩
  |1,_=>exact⟨_,rfl,rfl⟩
  |2,_=>exact⟨_,rfl,rfl⟩
  |3,_=>exact⟨_,rfl,rfl⟩
  |4,_=>exact⟨_,rfl,rfl⟩
  |5,_=>exact⟨_,rfl,rfl⟩
 obtain⟨y,m,o⟩:=this;exact yF (x:=y) (by rw[h,eO];exact m) (by rw[o];exact j)
def aqg{a g r n:Int}{c:Nat->Int}{l:List It}(hH:jV a g r n l)(hc:∀k,0<=c k/\c k<4294967296)(hE:∀x∈l,pK x)(hl:l.length<=1000):
 N2 ([.i a,.i g,.i r,.i n]++cA c++[.r (l.map bu)])=some [.i 0,.r ((iY a g r n c l).map b1)]:=by
 have hH1:=hH.1;have hH2:=hH.2.1;have hH3:=hH.2.2.1;have l1:=dk a 2;have l2:=dk g 2;have l3:=dk r 4;have l4:=dk n 8;have l5:=dk l.length 4;have l6:=ta l;refine bJ ?_;refine bR (Z9 a g r n (.i (c 0)) (.i (c 1)) (.i (c 2)) (.i (c 3)) (.i (c 4)) (.i (c 5)) l om (kx hH)) ?_;refine cu ?_;refine uR ?_;refine jy (r:=b1 78) oO rfl rfl (nW ?_);refine iw a rfl ?_;refine bz (kS a 2 om om) ?_;refine fM (a:=[78,73,68,88]) (c:=num a 2) rfl rfl (by show(4:Nat)<=_;omega) om (nW ?_);refine iw g rfl ?_;refine bz (kS g 2 om om) ?_;refine fM (a:=[78,73,68,88]++num a 2) (c:=num g 2) rfl rfl (by simp only[cw];show 4+_<=_;omega) om (nW ?_);refine iw r rfl ?_;refine bz (kS r 4 om om) ?_;refine fM (a:=[78,73,68,88]++num a 2++num g 2) (c:=num r 4) rfl rfl (by simp only[cw];show 4+_+_<=_;omega) om (nW ?_);refine iw n rfl ?_;refine bz (kS n 8 om om) ?_;refine fM (a:=[78,73,68,88]++num a 2++num g 2++num r 4) (c:=num n 8) rfl rfl (by simp only[cw];show 4+_+_+_<=_;omega) om ?_;obtain⟨p,hp⟩:∃p,[78,73,68,88]++num a 2++num g 2++num r 4++num n 8=p:=⟨_,rfl⟩
 have hpl:p.length=20:=by rw[<-hp];simp[dk]
 have hh:lp a g r n c l=p++ic c 6++num l.length 4++eU l:=by rw[<-hp];rfl
 have hhl:=xv a g r n c l;rw[hp];refine nW ?_;refine bO (λxs=>xs=[.r ((p++ic c 6).map b1)]) ?_ ?_
 .refine wp_loop (I:=λy=>∃i:Nat,y=[.i i,.r ((p++ic c i).map b1)]/\i<=6) (mu:=cN 6) ⟨0,by show[L.i 0,L.r (p.map b1)]=_;simp[ic],om⟩ ?_;rintro y ⟨i,rfl,e1⟩;have iO:=sU c i;refine cz (λhx=>?_) (λhx=>?_);rotate_left
  .obtain rfl:i=6:=om;exact bm rfl
  have hi:i<6:=om;have CD:=hc i;refine nH ⟨by show(0:Int)<=i;omega,by show(i:Int)< (6:Nat);omega⟩ (nW ?_);refine VU (c:=c) hi (by rfl) (nW ?_);refine iw (c i) rfl ?_;refine bz (kS (c i) 4 om om) ?_;refine fM (a:=p++ic c i) (c:=num (c i) 4) rfl rfl (by rw[cw];omega) (by rw[dk];omega) (nW ?_);refine cj i ?_;refine bm ⟨⟨i+1,?_,om⟩,?_⟩
  .rw[xL,<-dr];rfl
  .show 6- ((i+1:Nat):Int).toNat<6-i;omega
 rintro _ rfl;have iO:=sU c 6;refine nW ?_;refine bR (aAV hH.2.2.2.1 hE hl) ?_;rw[bA];refine iw ((l.length:Int)) rfl ?_;refine bz (kS l.length 4 om om) ?_;refine fM (a:=p++ic c 6) (c:=num l.length 4) rfl rfl (by rw[cw];omega) om (nW ?_);refine fM (a:=p++ic c 6++num l.length 4) (c:=eU l) rfl rfl (by simp only[cw];omega) om ?_;rw[<-hh];refine nW ?_;refine nN (m:=d_ (lp a g r n c l)) (yN (lp a g r n c l) om) rfl rfl (nW ?_);refine fM (a:=lp a g r n c l) (c:=d_ (lp a g r n c l)) rfl rfl om (by rw[oh];omega) (nW ?_);exact bm rfl
def xB(a:List Nat)(ha:a.length<=1048576)(v:Int)(n:Nat)(h0:0<=v)(hn:n<=8):ru [.r (a.map b1),.i v,.i n]=some [.r ((a++num v n).map b1)]:=by
 refine bJ ?_;refine ew [.r ((a++num v n).map b1)] ?_;refine eb ((n:Int) -1) rfl ?_;refine wp_loop (I:=λy=>∃k:Nat,y=[.i ((n:Int) -1-k),.r ((a++(num v n).take k).map b1)]/\k<=n) (mu:=λy=>match y with|[.i i,_]=>(i+1).toNat|_=>0) ⟨0,by show[L.i ((n:Int) -1),L.r (a.map b1)]=_;simp,om⟩ ?_;rintro y ⟨k,rfl,e1⟩;have hl:=dk v n;refine cz (λhc=>?_) (λhc=>?_);rotate_left
 .refine bm ?_;show[L.r ((a++(num v n).take k).map b1)]=_;rw[eP om]
 have hk:k<n:=om;obtain⟨m,hm⟩:∃m:Nat,n-1-k=m:=⟨_,rfl⟩
 have P8:m<=7:=om;refine mR (((8*m:Nat):Int)) (by show 8*((n:Int) -1-k)=_;omega) ?_;refine dw (l:=.i (v.fdiv (2^ (8*m)))) ?_ (nW ?_)
 .show(if(0:Int)<=((8*m:Nat):Int)then some (L.i (v.fdiv (2^ (min ((8*m:Nat):Int).toNat IntKind.i64.bits))))else none)=_;rw[bB om,eO,o0 (by show 8*m<=64;omega)]
 refine ju (uR ?_);refine fM (a:=(a++(num v n).take k)) (c:=[fe v (8*m)]) rfl (by show[[PV.sc _]]=[b1 _];rw[<-oA]) (by rw[cw,dH];omega) fO (nW ?_);refine eb ((n:Int) -1- ((k+1:Nat):Int)) (by show(n:Int) -1-k-1=_;omega) ?_;refine bm ⟨⟨k+1,?_,om⟩,?_⟩
 .show[L.i _,L.r (((a++(num v n).take k)++[fe v (8*m)]).map b1)]=_;rw[fT (show k< (num v n).length by omega),EZ,hm,dr]
 .show((n:Int) -1- ((k+1:Nat):Int)+1).toNat< ((n:Int) -1-k+1).toNat;omega
def Pv(a:List Nat)(ha:a.length<=1048576)(v:Int)(n:Nat)(h0:0<=v)(hn:n<=8):Bi [.r (a.map b1),.i v,.i n]=some [.r ((a++num v n).map b1)]:=by
 refine bJ ?_;refine ew [.r ((a++num v n).map b1)] ?_;refine eb ((n:Int) -1) rfl ?_;refine wp_loop (I:=λy=>∃k:Nat,y=[.i ((n:Int) -1-k),.r ((a++(num v n).take k).map b1)]/\k<=n) (mu:=λy=>match y with|[.i i,_]=>(i+1).toNat|_=>0) ⟨0,by show[L.i ((n:Int) -1),L.r (a.map b1)]=_;simp,om⟩ ?_;rintro y ⟨k,rfl,e1⟩;have hl:=dk v n;refine cz (λhc=>?_) (λhc=>?_);rotate_left
 .refine bm ?_;show[L.r ((a++(num v n).take k).map b1)]=_;rw[eP om]
 have hk:k<n:=om;obtain⟨m,hm⟩:∃m:Nat,n-1-k=m:=⟨_,rfl⟩
 have P8:m<=7:=om;refine mR (((8*m:Nat):Int)) (by show 8*((n:Int) -1-k)=_;omega) ?_;refine dw (l:=.i (v.fdiv (2^ (8*m)))) ?_ (nW ?_)
 .show(if(0:Int)<=((8*m:Nat):Int)then some (L.i (v.fdiv (2^ (min ((8*m:Nat):Int).toNat IntKind.u64.bits))))else none)=_;rw[bB om,eO,o0 (by show 8*m<=64;omega)]
 refine ju (uR ?_);refine fM (a:=(a++(num v n).take k)) (c:=[fe v (8*m)]) rfl (by show[[PV.sc _]]=[b1 _];rw[<-oA]) (by rw[cw,dH];omega) fO (nW ?_);refine eb ((n:Int) -1- ((k+1:Nat):Int)) (by show(n:Int) -1-k-1=_;omega) ?_;refine bm ⟨⟨k+1,?_,om⟩,?_⟩
 .show[L.i _,L.r (((a++(num v n).take k)++[fe v (8*m)]).map b1)]=_;rw[fT (show k< (num v n).length by omega),EZ,hm,dr]
 .show((n:Int) -1- ((k+1:Nat):Int)+1).toNat< ((n:Int) -1-k+1).toNat;omega
def akJ(v:Int)(n:Nat)(h0:0<=v)(hn:n<=8):Kz [.i v,.i n]=some [.r ((num v n).map b1)]:=by
 refine bJ ?_;refine ew [.r ((num v n).map b1)] ?_;refine eb ((n:Int) -1) rfl ?_;refine wp_loop (I:=λy=>∃k:Nat,y=[.i ((n:Int) -1-k),.r (((num v n).take k).map b1)]/\k<=n) (mu:=λy=>match y with|[.i i,_]=>(i+1).toNat|_=>0) ⟨0,by show[L.i ((n:Int) -1),L.r []]=_;simp,om⟩ ?_;rintro y ⟨k,rfl,e1⟩;have hl:=dk v n;refine cz (λhc=>?_) (λhc=>?_);rotate_left
 .refine bm ?_;show[L.r (((num v n).take k).map b1)]=_;rw[eP om]
 have hk:k<n:=om;obtain⟨m,hm⟩:∃m:Nat,n-1-k=m:=⟨_,rfl⟩
 have P8:m<=7:=om;refine mR (((8*m:Nat):Int)) (by show 8*((n:Int) -1-k)=_;omega) ?_;refine dw (l:=.i (v.fdiv (2^ (8*m)))) ?_ (nW ?_)
 .show(if(0:Int)<=((8*m:Nat):Int)then some (L.i (v.fdiv (2^ (min ((8*m:Nat):Int).toNat IntKind.u64.bits))))else none)=_;rw[bB om,eO,o0 (by show 8*m<=64;omega)]
 refine ju (uR ?_);refine fM (a:=((num v n).take k)) (c:=[fe v (8*m)]) rfl (by show[[PV.sc _]]=[b1 _];rw[<-oA]) (by rw[dH];omega) fO (nW ?_);refine eb ((n:Int) -1- ((k+1:Nat):Int)) (by show(n:Int) -1-k-1=_;omega) ?_;refine bm ⟨⟨k+1,?_,om⟩,?_⟩
 .show[L.i _,L.r ((((num v n).take k)++[fe v (8*m)]).map b1)]=_;rw[fT (show k< (num v n).length by omega),EZ,hm]
 .show((n:Int) -1- ((k+1:Nat):Int)+1).toNat< ((n:Int) -1-k+1).toNat;omega
def N1(l:List Nat)(hb:B8 l)(hl:l.length<=4294967296):Cj [.r (l.map b1)]=some [.i (val l).toInt]:=by
 refine bJ ?_;refine bO (λxs=>xs=[.i (val l).toInt]) ?_ ?_;rotate_left
 .rintro _ rfl;refine nW ?_;exact bm rfl
 refine uR ?_;refine wp_loop (I:=λa=>∃i:Nat,a=[.i (val (l.take i)).toInt,.i i]/\i<=l.length) (mu:=gX l.length) ⟨0,rfl,om⟩ ?_;rintro a ⟨i,rfl,e1⟩;refine cz (λhc=>?_) (λhc=>?_)
 .rw[bA]at hc;have hi:i<l.length:=om;have hx:=hb _ (cV hi);refine dx b1 i hi ?_;refine dw (R3 _) (nW ?_);refine pH (n:=(l[i]:Int)) rfl om om (nW ?_);refine dw (Ve _ _) (nW ?_);refine cj i ?_;refine bm ⟨⟨i+1,?_,om⟩,?_⟩
  .show[L.i _,L.i _]=_;rw[Gp hi]
  .show l.length- ((i+1:Nat):Int).toNat<l.length-i;omega
 .rw[bA]at hc;obtain rfl:i=l.length:=om;refine bm ?_;show[L.i ((val (l.take l.length)).toInt)]=_;rw[jX]
def G4(c)(k):L.i (IntKind.wrap .u8 (c.fdiv (2^k)))=.i (fe c k):=by
 unfold fe;have h:(0:Int)<=c/2^k%256:=Int.emod_nonneg _ dc;rw[IG _ (QE dc),zG h];congr 1
def asr(c:Int):L5 [.i c]=some [.i (fe c 0),.i (fe c 8),.i (fe c 16),.i (fe c 24)]:=by
 refine bJ ?_;refine ju (nW ?_);refine dw (l:=.i (c.fdiv (2^8))) rfl (nW ?_);refine ju (nW ?_);refine dw (l:=.i (c.fdiv (2^16))) rfl (nW ?_);refine ju (nW ?_);refine dw (l:=.i (c.fdiv (2^24))) rfl (nW ?_);refine ju (nW ?_);refine bm ?_;have a:=G4 c 0;rw[show c.fdiv (2^0)=c by simp]at a;show[L.i (IntKind.wrap .u8 c),L.i (IntKind.wrap .u8 (c.fdiv (2^8))),L.i (IntKind.wrap .u8 (c.fdiv (2^16))),L.i (IntKind.wrap .u8 (c.fdiv (2^24)))]=_;rw[a,G4,G4,G4]
def aBD{a g r}(h:0<=a/\a<4/\1<=g/\g<=8/\0<=r/\r<4294967296){x}(m:B8 x)(o:x.length<=2097152):Pd [.r ((il a g r++x).map b1)]=some [.i 0,.i a,.i g,.i r]:=by
 obtain⟨b,d⟩:∃b,il a g r++x=b:=⟨_,rfl⟩
 have e:b=[78,86,79,76]++(num a 2++(num g 2++(num r 4++(d_ (eQ a g r)++x)))):=by rw[<-d];simp[il,fl,eQ]
 have f:=dk a 2;have i:=dk g 2;have q:=dk r 4;have c1:cQ b 0 4=[78,86,79,76]:=gK (p:=[]) e rfl rfl;have c2:cQ b 4 6=num a 2:=gK e rfl om;have c3:cQ b 6 8=num g 2:=gK (p:=[78,86,79,76]++num a 2) (by rw[e,<-dr]) (by rw[cw,f];rfl) om;have c4:cQ b 8 12=num r 4:=gK (p:=[78,86,79,76]++num a 2++num g 2) (by rw[e,<-dr,<-dr]) (by rw[cw,cw,f,i];rfl) om;have c5:cQ b 0 12=eQ a g r:=gK (p:=[]) (r:=d_ (eQ a g r)++x) (by rw[e];simp[eQ]) rfl (by rw[sP]);have c6:cQ b 12 16=d_ (eQ a g r):=gK (p:=eQ a g r) (r:=x) (by rw[e];simp[eQ]) (sP _ _ _) rfl;have j:b.length=16+x.length:=by rw[<-d,cw,qB]
 rw[d];refine gp ?_;rw[bA];refine bT rfl om ?_;refine uR ?_;refine gx (a:=0) (c:=4) rfl rfl rfl om om ?_;show bp.wp _ (_++[L.r ((cQ b 0 4).map b1)]) _;rw[c1];refine nW ?_;refine qY (l:=[78,86,79,76]) rfl (nW ?_);refine zS (a:=[78,86,79,76]) (b:=[78,86,79,76]) (t:=false) rfl (by rfl) (by unfold B8;decide) (by unfold B8;decide) ch (nW ?_);refine cu ?_;refine uR ?_;refine gx (a:=0) (c:=12) rfl rfl rfl om om ?_;show bp.wp _ (_++[L.r ((cQ b 0 12).map b1)]) _;rw[c5];refine nW ?_;refine bz (Fk (eQ a g r) (by rw[sP];omega)) ?_;refine bR (asr _) ?_;refine gx (a:=12) (c:=16) rfl rfl rfl om om ?_;show bp.wp _ (_++[L.r ((cQ b 12 16).map b1)]) _;rw[c6];refine nW ?_;refine gx (l:=d_ (eQ a g r)) (a:=0) (c:=4) rfl rfl rfl om (by rw[oh];omega) ?_;show bp.wp _ (_++[L.r [b1 (fe (fo (eQ a g r)) 0),b1 (fe (fo (eQ a g r)) 8),b1 (fe (fo (eQ a g r)) 16),b1 (fe (fo (eQ a g r)) 24)]]) _;refine nW ?_;refine r5 (r:=b1 (fe (fo (eQ a g r)) 0)) rfl rfl rfl (nW ?_);refine r5 (r:=b1 (fe (fo (eQ a g r)) 8)) rfl rfl rfl (nW ?_);refine r5 (r:=b1 (fe (fo (eQ a g r)) 16)) rfl rfl rfl (nW ?_);refine r5 (r:=b1 (fe (fo (eQ a g r)) 24)) rfl rfl rfl (uR ?_);refine jy (r:=[.sc (.int .u8 (fe (fo (eQ a g r)) 0:Nat)),.sc (.int .u8 (fe (fo (eQ a g r)) 8:Nat)),.sc (.int .u8 (fe (fo (eQ a g r)) 16:Nat)),.sc (.int .u8 (fe (fo (eQ a g r)) 24:Nat))]) oO rfl rfl (uR ?_);refine qo (by
  show(!(((decide (((fe (fo (eQ a g r)) 0:Nat):Int)=((fe (fo (eQ a g r)) 0:Nat):Int))&&decide _)&&decide _)&&decide _))=false;simp) ?_
 refine uR ?_;refine gx (a:=4) (c:=6) rfl rfl rfl om om ?_;show bp.wp _ (_++[L.r ((cQ b 4 6).map b1)]) _;rw[c2];refine nW ?_;refine du (N1 _ (iu a 2) om) rfl rfl ?_;rw[qa a 2 om om (by show a<65536;omega) om];refine uR ?_;refine gx (a:=6) (c:=8) rfl rfl rfl om om ?_;show bp.wp _ (_++[L.r ((cQ b 6 8).map b1)]) _;rw[c3];refine nW ?_;refine du (N1 _ (iu g 2) om) rfl rfl ?_;rw[qa g 2 om om (by show g<65536;omega) om];refine uR ?_;refine gx (a:=8) (c:=12) rfl rfl rfl om om ?_;show bp.wp _ (_++[L.r ((cQ b 8 12).map b1)]) _;rw[c4];refine nW ?_;refine du (N1 _ (iu r 4) om) rfl rfl ?_;rw[qa r 4 om om (by show r<4294967296;omega) om];refine nW ?_;refine bR (Zo a g r (b:=true) ⟨λ_=>h,λ_=>rfl⟩) ?_;refine cu ?_;exact bm rfl
def ajO{l:List It}(hv:VL l)(hE:∀x∈l,pK x)(hl:l.length<=1000):Eg [.r (l.map bu)]=some [.i 0,.r ((eU l).map b1)]:=by
 refine bJ ?_;refine bR (Mo l om (kx hv)) ?_;refine cu ?_;refine ew [.r ((eU l).map b1)] ?_;refine uR ?_;rw[bA];refine wp_loop (I:=λa=>∃i:Nat,a=[.i i,.r ((eU (l.take i)).map b1)]/\i<=l.length) (mu:=cN l.length) ⟨0,rfl,om⟩ ?_;rintro a ⟨i,rfl,e1⟩;refine cz (λhc=>?_) (λhc=>?_);rotate_left
 .refine bm ?_;show[L.r ((eU (l.take i)).map b1)]=_;rw[eP om]
 have hi:i<l.length:=om;have hx:=hE _ (cV hi);have hb:=xI (hv.2 _ (cV hi));have CP:=ta (l.take i);rw[dH]at CP;have mi:=fT hi;obtain⟨x,uf⟩:∃x,l[i]=x:=⟨_,rfl⟩
 rw[uf]at hx hb mi;obtain⟨h1,h2,h3,h4⟩:=hx;have l1:=dk x.key 8;have l2:=dk x.cookie 4;have l3:=dk x.off 4;have l4:=dk x.size 4;refine dV (f:=bu) (j:=i) rfl rfl hi rfl ?_;rw[uf];refine uR ?_;refine bz (akJ x.key 8 om om) ?_;refine iw x.cookie rfl ?_;refine bz (Pv (num x.key 8) om x.cookie 4 om om) ?_;refine iw x.off rfl ?_;refine bz (Pv (num x.key 8++num x.cookie 4) (by rw[cw];omega) x.off 4 om om) ?_;refine iw x.size rfl ?_;refine du (Pv (num x.key 8++num x.cookie 4++num x.off 4) (by simp only[cw];omega) x.size 4 om om) rfl rfl ?_;show bp.wp _ (_++[L.r ((fq x).map b1)]) _;have kH:=xP x;refine nW ?_;refine fM (a:=eU (l.take i)) (c:=fq x) rfl rfl om om (nW ?_);refine nN (m:=d_ (fq x)) (YP (fq x) om) rfl rfl (nW ?_);refine fM (a:=eU (l.take i)++fq x) (c:=d_ (fq x)) rfl rfl (by rw[cw];omega) (by rw[oh];omega) (nW ?_);refine cj i ?_;refine bm ⟨⟨i+1,?_,om⟩,?_⟩
 .rw[mi,Rb];show[L.i _,L.r ((eU (l.take i)++fq x++d_ (fq x)).map b1)]=[L.i _,L.r ((eU (l.take i)++(fq x++d_ (fq x))).map b1)]
  rw[dr]
 .show l.length- ((i+1:Nat):Int).toNat<l.length-i;omega
attribute [local irreducible] ru Eg vO A8
def alb{a g r n:Int}{c:Nat->Int}{l:List It}(hH:jV a g r n l)(hc:∀k,0<=c k/\c k<4294967296)(hE:∀x∈l,pK x)(hl:l.length<=1000):
 L4 ([.i a,.i g,.i r,.i n]++cA c++[.r (l.map bu)])=some [.i 0,.r ((iY a g r n c l).map b1)]:=by
 have hH1:=hH.1;have hH2:=hH.2.1;have hH3:=hH.2.2.1;have l1:=dk a 2;have l2:=dk g 2;have l3:=dk r 4;have l4:=dk n 8;have l5:=dk l.length 4;have l6:=ta l;refine bJ ?_;refine bR (Ev a g r n (.i (c 0)) (.i (c 1)) (.i (c 2)) (.i (c 3)) (.i (c 4)) (.i (c 5)) l om (kx hH)) ?_;refine cu ?_;refine uR ?_;refine jy (r:=b1 78) oO rfl rfl (nW ?_);obtain⟨q,hq⟩:∃q,[78,73,68,88]++num a 2=q:=⟨_,rfl⟩
 have hql:q.length=6:=by rw[<-hq];simp[dk]
 have e1:=xB [78,73,68,88] dc a 2 om om;rw[hq]at e1;refine bz e1 ?_;refine bz (xB q om g 2 om om) ?_;refine bz (xB (q++num g 2) (by simp only[cw];omega) r 4 om om) ?_;refine du (xB (q++num g 2++num r 4) (by simp only[cw];omega) n 8 om om) rfl rfl ?_;obtain⟨p,hp⟩:∃p,q++num g 2++num r 4++num n 8=p:=⟨_,rfl⟩
 have hpl:p.length=20:=by rw[<-hp];simp[dk,hql]
 have hh:lp a g r n c l=p++ic c 6++num l.length 4++eU l:=by rw[<-hp,<-hq];rfl
 have hhl:=xv a g r n c l;rw[hp];refine nW ?_;refine bO (λxs=>xs=[.r ((p++ic c 6).map b1)]) ?_ ?_
 .refine wp_loop (I:=λy=>∃i:Nat,y=[.i i,.r ((p++ic c i).map b1)]/\i<=6) (mu:=cN 6) ⟨0,by show[L.i 0,L.r (p.map b1)]=_;simp[ic],om⟩ ?_;rintro y ⟨i,rfl,e1⟩;have iO:=sU c i;refine cz (λhx=>?_) (λhx=>?_);rotate_left
  .obtain rfl:i=6:=om;exact bm rfl
  have hi:i<6:=om;have CD:=hc i;refine nH ⟨by show(0:Int)<=i;omega,by show(i:Int)< (6:Nat);omega⟩ (nW ?_);refine VU (c:=c) hi (by rfl) (nW ?_);refine pH (n:=c i) rfl om om (nW ?_);refine bz (xB (p++ic c i) (by rw[cw];omega) (c i) 4 om om) ?_;refine cj i ?_;refine bm ⟨⟨i+1,?_,om⟩,?_⟩
  .rw[xL,<-dr];rfl
  .show 6- ((i+1:Nat):Int).toNat<6-i;omega
 rintro _ rfl;have iO:=sU c 6;refine nW ?_;refine bR (ajO hH.2.2.2.1 hE hl) ?_;rw[bA];refine bz (xB (p++ic c 6) (by rw[cw];omega) l.length 4 om om) ?_;refine fM (a:=p++ic c 6++num l.length 4) (c:=eU l) rfl rfl (by simp only[cw];omega) om ?_;rw[<-hh];refine nW ?_;refine nN (m:=d_ (lp a g r n c l)) (Mi (lp a g r n c l) om) rfl rfl (nW ?_);refine fM (a:=lp a g r n c l) (c:=d_ (lp a g r n c l)) rfl rfl om (by rw[oh];omega) (nW ?_);exact bm rfl
end
section
open Go.RowKit Pl AI
attribute [local irreducible] bp.wp
def tA(b:List Nat)(i:Nat):List Nat:=(List.range (Sp.cU b.length)).map λj=>if Sp.mO i j<b.length then b.getD (Sp.mO i j) 0 else 0
def jM(b:List Nat):List (List Nat):=(List.range 4).map (tA b)
def QR(b)(i):(tA b i).length=Sp.cU b.length:=by simp[tA]
def azX{b}(a:B8 b)(i):B8 (tA b i):=λx c=>by
 obtain⟨j,_,rfl⟩:=gg.1 c;split
 .rename_i h;rw[iA h];exact a _ (cV h)
 .decide
def Co{b}(a:B8 b):ma (jM b) (Sp.cU b.length):=λd c=>by
 obtain⟨i,_,rfl⟩:=gg.1 c;exact⟨azX a i,QR b i⟩
theorem pJ(b):(jM b).length=4:=rfl
def Sn(b:List Nat)(a:b.length<=1048576):w_ [.r (b.map b1)]=some [.r ((jM b).map fR)]:=by
 unfold w_;dsimp only;rw[show(L.r (b.map b1)).bE=b.map b1 from rfl,KU];dsimp only;rw[bB (by rw[bA];exact a)];congr 3;unfold Sp.nB jM;rw[gW];refine ia λi _=>?_
 show Sp.we _ i=fR (tA b i);unfold Sp.we fR tA;rw[bA];congr 2;unfold fy;rw[gW,gW];refine ia λj _=>?_
 show[PV.sc (.int .u8 (Sp.fill _ _ i j))]=b1 _;unfold Sp.fill b1;dsimp only;by_cases h:Sp.mO i j<b.length
 .rw[bB h,bB h,cY,iD,db h];rfl
 .rw[bG h,bG h];rfl
def anl{ds:List (List Nat)}(h4:ds.length=4){m}(hd:ma ds m):Kv [.r (ds.map fR),.i 4]=some [.b true]:=by
 refine gp ?_;rw[bA];refine bT rfl (by rw[h4];decide) ?_;refine ew [] ?_;refine wp_loop (I:=λa=>∃i:Nat,a=[.i i]/\i<=4) (mu:=cN 4) ⟨0,rfl,om⟩ ?_;rintro a ⟨i,rfl,e1⟩;refine uR ?_;refine cD rfl (λhx=>?_) (λhx=>bm rfl);have hi:i<ds.length:=om;have h0:0<ds.length:=om;refine dx fR i hi ?_;refine dx fR 0 h0 ?_;refine bT rfl (by rw[bA,bA,(hd.at hi).2,(hd.at h0).2];exactλh=>h rfl) ?_;refine cj i ?_;exact bm ⟨⟨i+1,rfl,om⟩,dy 4 i⟩
def l_(ds:List (List Nat))(m:Nat):List (List Nat):=kR yQ ds m 6
def ahR:∀x∈yQ,x<256:=by decide
def ars{ds:List (List Nat)}(a:ds.length=4){m}(b:m<=4294967296)(c:ma ds m):IQ [.r (ds.map fR)]=some [.r ((l_ ds m).map fR)]:=by
 refine bJ ?_;refine bz als ?_;refine bz (adS (E:=yQ) dc ahR a b c) ?_;exact bm rfl
def amo{ds:List (List Nat)}(b:ds.length=4){m}(d:m<=4294967296)(c:ma ds m):KD [.r (ds.map fR)]=some [.r (((l_ ds m).drop 4).map fR),.i 0]:=by
 have a:(l_ ds m).length=6:=sY _ _ _ _;refine bJ ?_;refine bR (anl b c) ?_;refine cu ?_;refine bR (ars b d c) ?_;rw[bA,a];refine lK ⟨by show(0:Int)<=4;omega,by show(4:Int)<=6;omega,by show(6:Nat)<=((l_ ds m).map fR).length;rw[bA,a];omega,kQ (nD _)⟩ (nW ?_);refine kh (ls:=[.r (((l_ ds m).drop 4).map fR)]) ?_ (nW ?_)
 .show some [L.r ((((l_ ds m).map fR).drop 4).take 2)]=_;rw[<-o2,eP (by rw[bA,jE,a];decide)]
 exact bm rfl
def dO(b:List Nat):List (List Nat):=jM b++(l_ (jM b) (Sp.cU b.length)).drop 4
def oo(b):(dO b).length=6:=by unfold dO;rw[cw,jE,pJ];show 4+((kR _ _ _ _).length-4)=6;rw[sY]
def BC{b}(a:B8 b):ma (dO b) (Sp.cU b.length):=λd c=>by
 rcases iP.1 c with h|h
 .exact Co a d h
 .exact amY (pJ b) (Co a) d (oZ h)
def ep(b:List Nat)(k:Nat):Int:=fo ((dO b).getD k [])
def KI(b)(k):0<=ep b k/\ep b k<4294967296:=by
 have:=ahn ((dO b).getD k []);unfold ep;omega
def Gl(c:Nat->Int)(i k:Nat):Int:=if k<i then c k else 0
def auh{b:List Nat}(hb:B8 b){a g r:Int}{l:List It}(hH:jV a g r b.length l)(hl:l.length<=1000):Pz [.r (b.map b1),.i a,.i g,.i r,.r (l.map bu)]=some ([.i 0,.r ((dO b).map fR),.i a,.i g,.i r,.i b.length]++cA (ep b)++[.r (l.map bu)]):=by
 have qS:=hH.2.1;have CN:=hH.2.2.1;have aFE:Sp.cU b.length<=1048576:=by unfold Sp.cU;omega
 have h6:=oo b;refine gp ?_;rw[bA];refine eI (r:=l.map bu) rfl (gD _) py (by show(l.map bu).length<=_;rw[bA];omega) dc rfl (nW ?_);refine bR (Z9 a g r b.length (.i 0) (.i 0) (.i 0) (.i 0) (.i 0) (.i 0) l om (kx hH)) ?_;refine cu ?_;refine bz (Sn b om) ?_;refine bz (amo (pJ b) om (Co hb)) ?_;refine eI (r:=(dO b).map fR) (nD _) (nD _) (by show((jM b).map fR).length<=_;rw[bA,pJ];omega) (by show(((l_ (jM b) (Sp.cU b.length)).drop 4).map fR).length<=_;rw[bA,jE];show(kR _ _ _ _).length-4<=_;rw[sY];omega) dc (by unfold dO;rw[dU];rfl) (nW ?_);refine ew (cA (ep b)) ?_;refine wp_loop (I:=λy=>∃i:Nat,y=.i i::cA (Gl (ep b) i)/\i<=6) (mu:=cN 6) ⟨0,rfl,om⟩ ?_;rintro y ⟨i,rfl,e1⟩;refine cz (λhx=>?_) (λhx=>?_);rotate_left
 .obtain rfl:i=6:=om;exact bm rfl
 have hi:i< (dO b).length:=om;have hll:=(BC hb).at hi;refine bO (λxs=>xs=.i i::cA (Gl (ep b) (i+1))) ?_ ?_;rotate_left
 .rintro _ rfl;refine nW ?_;refine cj i ?_;exact bm ⟨⟨i+1,rfl,om⟩,dy 6 i⟩
 have hcs:fo (dO b)[i]=ep b i:=by unfold ep;rw[iA hi]
 refine eR fR i hi ?_;refine dP fR i hi ?_;refine du (Q8 (dO b)[i] om) rfl rfl ?_;rw[hcs];refine nW ?_;have P_:i=0\/i=1\/i=2\/i=3\/i=4\/i=5:=om;rcases P_ with rfl|rfl|rfl|rfl|rfl|rfl<;>
  (repeat (first| (refine c9 rfl dc ?_)| (refine bT rfl dc ?_)| (refine sT rfl ?_;try dsimp only[At.ev,d1,d2,d3,d4,d5,d6,d7,d8,d9,e0,List.map,cZ,Kd.pv])))<;>exact bm rfl
end
end
end Go.Proofs.YtiikkkhcolcebaaGreatDoor
