/- A part. -/
import Derived.Test.YtiikkkhcolcebaaGreatDoorG32
import Derived.Test.YtiikkkhcolcebaaGreatDoorG35
set_option linter.all false
set_option maxHeartbeats 4000000
set_option maxRecDepth 100000
namespace Go.Proofs.YtiikkkhcolcebaaGreatDoor
noncomputable section
section
open Go.RowKit AI
attribute [local irreducible] bl.wp
theorem H5{a b:Nat}(ha:a<256)(hb:b<256):oE [.i a,.i b]=some [.i (gm a b:Nat)]:=by
 refine bF ?_;refine bz (λxs=>xs=[.i (nt a b 8:Nat)]) ?_ ?_
 .refine wp_loop (I:=λx=>∃k:Nat,x=[.i (nt a b k:Nat),.i k]/\k<=8) (mu:=λx=>match x with|[_,.i k]=>8-k.toNat|_=>0) ⟨0,rfl,om⟩ ?_;rintro x ⟨k,rfl,e1⟩;refine uR ?_;refine bO rfl (λhc=>?_) (λhc=>?_);rotate_left
  .obtain rfl:k=8:=om;exact bk rfl
  have hp:=Kb (b:=b) ha k e1;refine bz (λxs=>xs=[.i (nt a b (k+1):Nat)]) ?_ ?_
  .refine gE (n:=(k:Int)) rfl om om (nW ?_);refine dn (l:=.i ((b>>>k:Nat):Int)) (zw (show k<=8 by omega)) (nW ?_);refine dn (l:=.i ((b>>>k%2:Nat):Int)) (Yz (ZQ (Nat.shiftRight_le _ _) hb)) (uR ?_);refine bO rfl (λhx=>?_) (λhx=>?_)
   .refine pL (n:=(a:Int)) rfl om om (nW ?_);refine gE (n:=(k:Int)) rfl om om (nW ?_);have h2:2^k<=2^7:=Bl dc om;have h3:a*2^k<=255*2^7:=Oz om h2;refine dn (l:=.i ((a<<<k:Nat):Int)) (Mh om om) (nW ?_);refine dn (l:=.i ((nt a b k^^^ (a<<<k):Nat):Int)) (C' hp om) (nW ?_);refine bk ?_;show[L.i _]=[L.i _]
    rw[nt,bA om]
   .refine bk ?_;show[L.i _]=[L.i _]
    rw[nt,bH om]
  rintro _ rfl;refine nW ?_;refine b8 (i:=k) rfl om (nW ?_);refine bk ⟨⟨k+1,rfl,om⟩,?_⟩;show 8- ((k+1:Nat):Int).toNat<8-k;omega
 rintro _ rfl;refine nW ?_;have hq:=Kb (b:=b) ha 8 om;obtain⟨p,hpe⟩:∃p,nt a b 8=p:=⟨_,rfl⟩
 unfold gm;rw[hpe]at hq⊢;refine bz (λxs=>xs=[.i (ky p 7:Nat)]) ?_ ?_
 .refine wp_loop (I:=λx=>∃n:Nat,x=[.i (ky p n:Nat),.i ((14:Int) -n)]/\n<=7) (mu:=λx=>match x with|[_,.i k]=>k.toNat-7|_=>0) ⟨0,rfl,om⟩ ?_;rintro x ⟨n,rfl,e1⟩;refine uR ?_;refine bO rfl (λhc=>?_) (λhc=>?_);rotate_left
  .obtain rfl:n=7:=om;exact bk rfl
  have hp:=Qx hq n e1;have e14:(14:Int) -n=((14-n:Nat):Int):=om;refine bz (λxs=>xs=[.i (ky p (n+1):Nat)]) ?_ ?_
  .refine gE (n:=((14-n:Nat):Int)) e14 om om (nW ?_);refine dn (l:=.i ((ky p n>>> (14-n):Nat):Int)) (zw (show 14-n<=64 by omega)) (nW ?_);refine dn (l:=.i ((ky p n>>> (14-n)%2:Nat):Int)) (ano (ZQ (Nat.shiftRight_le _ _) hp)) (uR ?_);refine bO rfl (λhx=>?_) (λhx=>?_)
   .refine di (n:=((6-n:Nat):Int)) oO om om (nW ?_);refine gE (n:=((6-n:Nat):Int)) rfl om om (nW ?_);have h2:2^ (6-n)<=2^6:=Bl dc om;refine dn (l:=.i ((285<<< (6-n):Nat):Int)) (Mh (x:=285) om om) (nW ?_);refine dn (l:=.i ((ky p n^^^ (285<<< (6-n)):Nat):Int)) (C' hp om) (nW ?_);refine bk ?_;show[L.i _]=[L.i _]
    rw[ky,bA om]
   .refine bk ?_;show[L.i _]=[L.i _]
    rw[ky,bH om]
  rintro _ rfl;refine nW ?_;refine di (n:=(14:Int) - ((n+1:Nat):Int)) oO om om (nW ?_);refine bk ⟨⟨n+1,rfl,om⟩,?_⟩;show((14:Int) - ((n+1:Nat):Int)).toNat-7< ((14:Int) - (n:Int)).toNat-7;omega
 rintro _ rfl;refine nW ?_;refine wA (n:=((ky p 7%256:Nat):Int)) (by
  show IntKind.wrap .u8 ((ky p 7:Nat):Int)=_;simp[IntKind.wrap,IntKind.bits,IntKind.signed]) ?_
 refine nW ?_;exact bk rfl
theorem amy{c:Nat}(hc:c<256)(d s)(hd:B8 d)(hs:B8 s)(hl:d.length=s.length)(hn:s.length<=4294967296):KW [.r (d.map b1),.r (s.map b1),.i c]=some [.i 0,.r ((lY c d s).map b1)]:=by
 refine bF ?_;refine uR ?_;refine bR rfl (by rw[bD,bD];omega) ?_;obtain⟨o,ho⟩:∃o,lY c d s=o:=⟨_,rfl⟩
 have kY:o.length=s.length:=by rw[<-ho];exact I3 hl
 have va:∀i(h:i<o.length)(h1:i<d.length)(h2:i<s.length),o[i]=d[i] ^^^gm c s[i]:=by subst ho;exactλi h h1 h2=>K8 h h1 h2
 rw[ho];refine bz (λxs=>xs=[.r (o.map b1)]) ?_ ?_;rotate_left
 .rintro _ rfl;refine nW ?_;exact bk rfl
 refine wp_loop (I:=λx=>∃i:Nat,x=[.i i,.r ((o.take i).map b1)]/\i<=o.length) (mu:=λx=>match x with|[.i i,_]=>o.length-i.toNat|_=>0) ⟨0,rfl,om⟩ ?_;rintro x ⟨i,rfl,e1⟩;refine uR ?_;refine bO rfl (λhc'=>?_) (λhc'=>?_);rotate_left
 .rw[bD]at hc';refine bk ?_;show[L.r ((o.take i).map b1)]=_;rw[eo om]
 rw[bD]at hc';have hi:i<d.length:=om;refine bS (f:=b1) (j:=i) rfl rfl hi rfl (uR ?_);refine bS (f:=b1) (j:=i) rfl rfl (show i<s.length by omega) rfl (uR ?_);refine bm (H5 hc (hs _ (cQ (show i<s.length by omega)))) rfl rfl (nW ?_);refine dn (l:=.i ((o[i]'om:Nat):Int)) (by rw[va i om hi om];exact Ru (hd _ (cQ hi)) (JL _ _)) (uR ?_);refine er (r:=(o.take (i+1)).map b1) (nN _) rfl oO oO dc (by rw[fi om,dE];rfl) (nW ?_);refine b8 (i:=i) rfl om (nW ?_);refine bk ⟨⟨i+1,rfl,om⟩,?_⟩;show o.length- ((i+1:Nat):Int).toNat<o.length-i;omega
theorem aja:qR []=some []:=rfl
theorem afL{c}(hc:c<256)(ht:c=0\/BM c=true)(d s)(hd:B8 d)(hs:B8 s)(hl:d.length=s.length)(hn:s.length<=4294967296):J2 [.r (d.map b1),.r (s.map b1),.i c]=some [.i 0,.r ((lY c d s).map b1)]:=by
 refine bF ?_;refine uR ?_;refine bR rfl (by rw[bD,bD];omega) ?_;refine bm aja rfl rfl (nW ?_);refine er (r:=d.map b1) rfl (nN _) oO oO dc rfl (nW ?_);obtain⟨o,ho⟩:∃o,lY c d s=o:=⟨_,rfl⟩
 have kY:o.length=s.length:=by rw[<-ho];exact I3 hl
 have va:∀i(h:i<o.length)(h1:i<d.length)(h2:i<s.length),o[i]=d[i] ^^^gm c s[i]:=by subst ho;exactλi h h1 h2=>K8 h h1 h2
 rw[ho];have xV:o.length=d.length:=om;refine bz (λxs=>xs=[.r (o.map b1)]) ?_ ?_;rotate_left
 .rintro _ rfl;refine nW ?_;exact bk rfl
 refine uR ?_;refine wp_loop (I:=λx=>∃i:Nat,x=[.i i,.r ((ke o d i).map b1)]/\i<=o.length) (mu:=λx=>match x with|[.i i,_]=>o.length-i.toNat|_=>0) ⟨0,rfl,om⟩ ?_;rintro x ⟨i,rfl,e1⟩;have u9:=agB xV i;refine uR ?_;refine bO rfl (λhc'=>?_) (λhc'=>?_);rotate_left
 .rw[bD]at hc';obtain rfl:i=d.length:=om;refine bk ?_;show[L.r ((ke o d d.length).map b1)]=_;rw[aaJ xV]
 rw[bD]at hc';have hi:i<d.length:=om;have NY:i<s.length:=om;have hy:=hs _ (cQ NY);have hdx:=hd _ (cQ hi);refine bz (λxs=>xs=[.r ((ke o d (i+1)).map b1)]) ?_ ?_
 .refine bS (f:=b1) (j:=i) rfl rfl NY rfl (uR ?_);have FY:=va i om hi NY;refine bz (c8 (c≠0/\s[i]≠0)) ?_ ?_
  .refine uR ?_;refine bO rfl (λhx=>?_) (λhx=>?_)
   .refine uR ?_;exact bk (e_ om)
   .exact bk (e7 om)
  rintro _ ⟨t,rfl,hT⟩;refine nW ?_;refine cJ (λhz=>?_) (λhz=>?_)
  .have hz:=hT.1 hz;refine bS (f:=b1) (j:=i) rfl rfl om rfl (nW ?_);refine cK (f:=b1) (j:=i) rfl rfl om rfl rfl ?_;rw[P3 xV hi];refine nW ?_;refine lK ⟨by show(0:Int)<=(c:Int);omega,by show(c:Int)<256;omega⟩ (nW ?_);refine xd (x:=.i (iu c:Nat)) (Yy hc) (nW ?_);refine lK ⟨by show(0:Int)<=(s[i]:Int);omega,by show(s[i]:Int)<256;omega⟩ (nW ?_);refine xd (x:=.i (iu s[i]:Nat)) (Yy hy) (nW ?_);have h1:=M7 c;have h2:=M7 s[i];refine dp (n:=((iu c+iu s[i]:Nat):Int)) rfl om om (nW ?_);refine lK ⟨by show(0:Int)<=((iu c+iu s[i]:Nat):Int);omega,by show((iu c+iu s[i]:Nat):Int)<510;omega⟩ (nW ?_);refine xd (x:=.i (AM (iu c+iu s[i]):Nat)) (acY (n:=iu c+iu s[i]) om) ?_;rw[adr (ht.resolve_left hz.1) hy hz.2];refine nW ?_;refine dn (l:=.i ((d[i] ^^^gm c s[i]:Nat):Int)) (Ru hdx (JL _ _)) (nW ?_);refine bS (f:=b1) (j:=i) rfl rfl om rfl (nW ?_);refine uL (f:=b1) (j:=i) (v:=d[i] ^^^gm c s[i]) rfl rfl om rfl rfl ?_;rw[QI xV hi FY.symm];refine nW ?_;exact bk rfl
  .have hz:¬(c≠0/\s[i]≠0):=λh=>by rw[hT.2 h]at hz;cases hz
   have hg:gm c s[i]=0:=by
    by_cases h0:c=0
    .rw[h0,aav hy]
    .rw[show s[i]=0 by omega,azO hc]
   refine bk ?_;show[L.r ((ke o d i).map b1)]=_;rw[<-QI xV hi (v:=d[i]) (by rw[FY,hg,Nat.xor_zero])];rw[show(ke o d i).set i d[i]=ke o d i by
    rw[<-P3 xV hi om];exact List.set_getElem_self _]
 rintro _ rfl;refine nW ?_;refine b8 (i:=i) rfl om (nW ?_);refine bk ⟨⟨i+1,rfl,om⟩,?_⟩;show o.length- ((i+1:Nat):Int).toNat<o.length-i;omega
def wx(a:Nat):Nat->Nat->Option Nat
 |0,_=>none
 |n+1,b=>cond (Nat.beq (gm a b) 1) (some b) (wx a n (b+1))
def Yp(o:Option Nat):List L:=match o with|some b=>[.i (b:Nat),.i 0]|none=>[.i 0,.i 1]
theorem afF{a:Nat}(ha:a<256):zT [.i a]=some (Yp (wx a 255 1)):=by
 obtain⟨o,ho⟩:∃o,wx a 255 1=o:=⟨_,rfl⟩
 rw[ho];refine bF ?_;refine bz (λxs=>xs=[]/\o=none) ?_ ?_;rotate_left
 .rintro _ ⟨rfl,rfl⟩;refine nW ?_;exact bk rfl
 refine wp_loop (I:=λx=>∃i:Nat,x=[.i i]/\i<=256/\1<=i/\wx a (256-i) i=o) (mu:=λx=>match x with|[.i i]=>256-i.toNat|_=>0) ⟨1,rfl,om,om,ho⟩ ?_;rintro x ⟨i,rfl,e1,e0,e2⟩;refine uR ?_;refine bO rfl (λhc=>?_) (λhc=>?_);rotate_left
 .obtain rfl:i=256:=om;exact bk ⟨rfl,e2.symm⟩
 have hi:i<256:=om;rw[show 256-i=(255-i)+1 by omega,wx]at e2;refine wA (n:=(i:Int)) (Ae hi) (nW ?_);refine bm (H5 ha hi) rfl rfl (uR ?_);refine bO rfl (λhx=>?_) (λhx=>?_)
 .have hx:gm a i=1:=om;rw[hx]at e2;refine wA (n:=(i:Int)) (Ae hi) (nW ?_);refine bk ?_;rw[<-e2];rfl
 .have hx:Nat.beq (gm a i) 1=false:=by rw[ZX];exactλh=>hx (by rw[sU h];rfl)
  rw[hx]at e2;refine b8 (i:=i) rfl om (nW ?_);refine bk ⟨⟨i+1,rfl,om,om,?_⟩,?_⟩
  .rw[show 256- (i+1)=255-i by omega];exact e2
  .show 256- ((i+1:Nat):Int).toNat<256-i;omega
def tQ(x:Nat):Nat:=if x*2/256=1 then(x*2) ^^^285 else x*2
def pm:Nat->Nat->Nat->Nat->Nat
 |0,_,_,_=>0
 |n+1,b,p,x=>if b=0 then p else pm n (b/2) (if b%2=1 then p^^^x else p) (tQ x)
theorem avp{x}(h:x<256):tQ x<256:=by
 have:∀x,x<256->tQ x<256:=λx h=>ZW (Dv (p:=λx=>Nat.blt (tQ x) 256) (n:=256) kr h)
 exact this x h
theorem aAa{a b:Nat}(ha:a<256)(hb:b<256):qO [.i a,.i b]=some [.i (pm 9 b 0 a:Nat)]:=by
 obtain⟨o,ho⟩:∃o,pm 9 b 0 a=o:=⟨_,rfl⟩
 rw[ho];refine bF ?_;refine pL (n:=(a:Int)) rfl om om (nW ?_);refine bz (λxs=>xs=[.i (o:Nat)]/\o<256) ?_ ?_;rotate_left
 .rintro _ ⟨rfl,h⟩;refine nW ?_;refine wA (n:=(o:Int)) (Ae h) (nW ?_);exact bk rfl
 refine wp_loop (I:=λy=>∃n b p x:Nat,y=[.i b,.i p,.i x]/\b<2^n/\n<=8/\p<256/\x<256/\pm (n+1) b p x=o) (mu:=λy=>match y with|[.i b,_,_]=>b.toNat|_=>0) ⟨8,b,0,a,rfl,hb,om,om,ha,ho⟩ ?_;rintro y ⟨n,b,p,x,rfl,hb,hn,hp,hx,e⟩;have hb8:b<256:=mM hb (Bl dc hn);refine uR ?_;refine bO rfl (λhc=>?_) (λhc=>?_);rotate_left
 .obtain rfl:b=0:=om;refine bk ⟨?_,?_⟩
  .show[L.i (p:Int)]=[L.i (o:Int)]
   rw[<-e,pm,bA rfl]
  .rw[<-e,pm,bA rfl];exact hp
 rw[pm,bH om]at e;have hxp:=Bk (n:=8) hp hx;refine bz (λxs=>xs=[.i ((if b%2=1 then p^^^x else p:Nat):Int),.i (tQ x:Nat)]) ?_ ?_
 .refine bz (λxs=>xs=[.i ((if b%2=1 then p^^^x else p:Nat):Int)]) ?_ ?_
  .refine dn (l:=.i ((b%2:Nat):Int)) (Yz hb8) (uR ?_);refine bO rfl (λhy=>?_) (λhy=>?_)
   .refine dn (l:=.i ((p^^^x:Nat):Int)) (C' om om) (nW ?_);refine bk ?_;show[L.i _]=[L.i _]
    rw[bA om]
   .refine bk ?_;show[L.i _]=[L.i _]
    rw[bH om]
  rintro _ rfl;refine nW ?_;refine dn (l:=.i ((x*2:Nat):Int)) ((Mh (x:=x) (k:=1) om om).trans (by rw[Bh])) (nW ?_);refine dn (l:=.i ((x*2/256:Nat):Int)) ((zw (x:=x*2) (k:=8) dc).trans (by rw[OD])) (uR ?_);refine bO rfl (λhy=>?_) (λhy=>?_)
  .refine dn (l:=.i (((x*2) ^^^285:Nat):Int)) (C' (a:=x*2) (b:=285) om om) (nW ?_);refine bk ?_;show[L.i _,L.i _]=[L.i _,L.i _]
   rw[show tQ x=(x*2) ^^^285 from bA om]
  .refine bk ?_;show[L.i _,L.i _]=[L.i _,L.i _]
   rw[show tQ x=x*2 from bH om]
 rintro _ rfl;refine nW ?_;refine dn (l:=.i ((b/2:Nat):Int)) ((zw (x:=b) (k:=1) dc).trans (by rw[OD])) (nW ?_);refine bk ⟨?_,?_⟩
 .match n,hb,e with
  |0,hb,_=>exact absurd hb om
  |n+1,hb,e=>exact⟨n,b/2,_,_,rfl,om,om,by split<;>omega,avp hx,e⟩
 .show((b/2:Nat):Int).toNat<b;omega
end
section
open Go.RowKit
section
variable{α:Type}
def Fc(n:Int)(k:Int->α):α:=match n with
 |.ofNat 0=>k (.ofNat 0)
 |.ofNat (m+1)=>k (.ofNat (m+1))
 |.negSucc m=>k (.negSucc m)
def yr:List PV->(List PV->α)->α
 |.sc (.int a n)::r,k=>Fc n λn=>yr r λr=>k (.sc (.int a n)::r)
 |p::r,k=>yr r λr=>k (p::r)
 |[],k=>k []
def Ch:List (List PV)->(List (List PV)->α)->α
 |a::r,k=>yr a λa=>Ch r λr=>k (a::r)
 |[],k=>k []
def G1(x:L)(k:L->α):α:=match x with
 |.i n=>Fc n λn=>k (.i n)
 |.b true=>k (.b true)
 |.b false=>k (.b false)
 |.r rows=>Ch rows λrows=>k (.r rows)
 |x=>k x
def we:List L->(List L->α)->α
 |a::r,k=>G1 a λa=>we r λr=>k (a::r)
 |[],k=>k []
def vY:List L->List L->(List L->α)->α
 |a::r,m,k=>vY r m λr=>k (a::r)
 |[],m,k=>k m
theorem PE(n)(k:Int->α):Fc n k=k n:=by
 unfold Fc;split<;>rfl
theorem JH:∀(r:List PV)(k:List PV->α),yr r k=k r
 |[],_=>rfl
 |p::r,k=>by
  unfold yr;split
  .rename_i h;cases h;rw[PE,JH]
  .rename_i h;cases h;rw[JH]
  .rename_i h;cases h
theorem PF:∀(r:List (List PV))(k:List (List PV)->α),Ch r k=k r
 |[],_=>rfl
 |a::r,k=>by rw[Ch,JH,PF]
theorem aeN(x)(k:L->α):G1 x k=k x:=by
 unfold G1;split
 .rw[PE]
 .rfl
 .rfl
 .rw[PF]
 .rfl
theorem Ey:∀(r:List L)(k:List L->α),we r k=k r
 |[],_=>rfl
 |a::r,k=>by rw[we,aeN,Ey]
theorem Dl:∀(a m:List L)(k:List L->α),vY a m k=k (a++m)
 |[],_,_=>rfl
 |x::a,m,k=>by rw[vY,Dl];rfl
end
abbrev GT:=Nat->Option (List L->Option (List L))
def Nd.run(a:GT)(ρ:List L)(nd:Nd):Option (List L):=match nd with
 |.call t _ args n us=>match a t with
  |some g=>match g (args.map (At.ev ρ))with
   |some l=>if l.length=n/\(us.all λi=>((l[i]?).getD (.b false)).bC.all (·.all PV.bare))=true then some l else none
   |none=>none
  |none=>none
 |nd=>nd.ev ρ
def bl.run(d:GT)(fuel:Nat):bl->List L->Out
 |.bp x,ρ=>some (x,ρ)
 |.op m k,ρ=>match m.run d ρ with
  |some ls=>we ls λls=>vY ρ ls λρ=>k.run d fuel ρ
  |none=>none
 |.ite c a b,ρ=>match(c.ev ρ).ez with
  |true=>a.run d fuel ρ
  |false=>b.run d fuel ρ
 |.join body rest,ρ=>match body.run d fuel ρ with
  |some (.jump 0 args,h)=>we (args.map (At.ev h)) λa=>vY ρ a λρ=>rest.run d fuel ρ
  |some (.jump (k+1) args,h)=>some (.jump k args,h)
  |r=>r
 |.loop init body,ρ=>gD (λa=>we a λa=>vY ρ a λρ=>nK (body.run d fuel ρ)) fuel (init.map (At.ev ρ))
def pA(a:GT):bl->Prop
 |.bp _=>True
 |.op b k=>(match b with| .call t F _ _ _=>∀g,a t=some g->∀ls o,g ls=some o->F ls=some o|_=>True)/\pA a k
 |.ite _ x y=>pA a x/\pA a y
 |.join x y=>pA a x/\pA a y
 |.loop _ y=>pA a y
theorem Nd.oB{d ρ}{a:Nd}{ls}(m:match a with| .call t F _ _ _=>∀g,d t=some g->∀ls o,g ls=some o->F ls=some o|_=>True)(h:a.run d ρ=some ls):a.ev ρ=some ls:=by
 cases a with
 |call t F args n us=>
  simp only[Nd.run]at h;split at h
  .rename_i g q;split at h
   .rename_i l u;simp only[Nd.ev,m g q _ _ u];exact h
   .cases h
  .cases h
 |_=>exact h
theorem Vt{A R f g}(h:∀a x,f a=some x->g a=some x):∀{n}{a:A}{r:R},gD f n a=some r->gD g n a=some r
 |0,_,_,b=>by cases b
 |n+1,a,r,b=>by
  simp only[gD]at b⊢;split at b
  .rename_i a' c;rw[h _ _ c];exact Vt h b
  .rename_i r' c;rw[h _ _ c];exact b
  .cases b
theorem bl.oB{u:GT}{fuel:Nat}:∀{f:bl}{ρ:List L}{r:Lf×List L},pA u f->f.run u fuel ρ=some r->f.a_ ρ=some r
 |.bp x,ρ,r,_,h=>h
 |.op G k,ρ,r,d,h=>by
  simp only[bl.run]at h;split at h
  .rename_i ls z;rw[Ey,Dl]at h;rw[bl.a_,Nd.oB d.1 z];exact bl.oB d.2 h
  .cases h
 |.ite c a b,ρ,r,d,h=>by
  simp only[bl.run]at h;split at h
  .rename_i B;rw[bl.a_,B];exact bl.oB d.1 h
  .rename_i B;rw[bl.a_,B];exact bl.oB d.2 h
 |.join a b,ρ,r,d,h=>by
  simp only[bl.run]at h;split at h
  .rename_i args q m;rw[Ey,Dl]at h;rw[bl.a_,bl.oB d.1 m];exact bl.oB d.2 h
  .rename_i k args q m;rw[bl.a_,bl.oB d.1 m];exact h
  .rename_i D E;have:=bl.oB d.1 h;obtain⟨F,q⟩:=r;rw[bl.a_,this]
   cases F with
   |st=>rfl
   |jump k args=>cases k with
    |zero=>exact absurd h (D _ _)
    |succ k=>exact absurd h (E _ _ _)
 |.loop init body,ρ,r,d,h=>by
  refine FL (n:=fuel) (Vt (λa x t=>?_) h);rw[Ey,Dl]at t
  cases m:body.run u fuel (ρ++a)with
  |none=>rw[m]at t;cases t
  |some y=>rw[m]at t;rw[show body.a_ (ρ++a)=some y from bl.oB (f:=body) (fuel:=fuel) d m];exact t
def oy(a:GT):List (Nat×(List L->Option (List L)))->Prop
 |[]=>True
 |(t,F)::r=>(∀g,a t=some g->∀ls o,g ls=some o->F ls=some o)/\oy a r
theorem oy.left{d}:∀{a b},oy d (a++b)->oy d a
 |[],_,_=>trivial
 |(_,_)::_,_,h=>⟨h.1,h.2.left⟩
theorem oy.right{d}:∀{a b},oy d (a++b)->oy d b
 |[],_,h=>h
 |(_,_)::a,_,h=>oy.right (a:=a) h.2
theorem tx{b}:∀{f},oy b (AI.bl.calls f)->pA b f
 |.bp _,_=>trivial
 |.op c k,h=>by
  refine⟨?_,tx h.right⟩
  cases c with
  |call t F a n u=>exact h.left.1
  |_=>trivial
 |.ite _ _ _,h=>⟨tx h.left,tx h.right⟩
 |.join _ _,h=>⟨tx h.left,tx h.right⟩
 |.loop _ y,h=>tx (f:=y) h
theorem asw{a f cs}(e:AI.bl.calls f=cs)(h:oy a cs):pA a f:=tx (by rw[e];exact h)
theorem cH{a:GT}{t}{g F:List L->Option (List L)}(e:a t=some g)(h:∀ls o,g ls=some o->F ls=some o):∀g,a t=some g->∀ls o,g ls=some o->F ls=some o:=λg' b=>by
 rw[e]at b;cases b;exact h
theorem aqe{a fuel f}(c:pA a f):∀ls o,fQ (f.run a fuel ls)=some o->fQ (f.a_ ls)=some o:=λls o h=>by
 cases b:f.run a fuel ls with
 |none=>rw[b]at h;cases h
 |some r=>rw[b]at h;rw[bl.oB c b];exact h
def PH(l:List (Nat×(List L->Option (List L)))):GT:=λt=>AI.lk l t
def rG(f:bl)(l:List (Nat×(List L->Option (List L)))):List L->Option (List L):=λls=>fQ (f.run (PH l) 40 ls)
abbrev Gk(g F:List L->Option (List L)):Prop:=∀ls o,g ls=some o->F ls=some o
theorem rK{f l}(cs)(h:oy (PH l) cs)(e:AI.bl.calls f=cs:=by kernel_rfl):Gk (rG f l) (Fo f):=aqe (asw e h)
def Jo:PV->PV->Bool
 |.sc (.int k n),.sc (.int a b)=>decide (k=a)&&decide (n=b)
 |_,_=>false
def EA:List PV->List PV->Bool
 |a::l,b::m=>Jo a b&&EA l m
 |[],[]=>true
 |_,_=>false
def BY:List (List PV)->List (List PV)->Bool
 |a::l,b::m=>EA a b&&BY l m
 |[],[]=>true
 |_,_=>false
def JT:L->L->Bool
 |.i a,.i b=>decide (a=b)
 |.s a,.s b=>decide (a.data.toList=b.data.toList)
 |.r a,.r b=>BY a b
 |_,_=>false
def FO:List L->List L->Bool
 |a::l,b::m=>JT a b&&FO l m
 |[],[]=>true
 |_,_=>false
def wu(o:Option (List L))(l:List L):Bool:=match o with|some m=>FO m l|none=>false
theorem axn{a b}(h:Jo a b=true):a=b:=by
 unfold Jo at h;split at h
 .rw[cu,eD,eD]at h;rw[h.1,h.2]
 .cases h
theorem Tu:∀{a b:List PV},EA a b=true->a=b
 |[],[],_=>rfl
 |a::l,b::m,h=>by
  rw[EA,cu]at h;rw[axn h.1,Tu h.2]
 |[],_::_,h=>by cases h
 |_::_,[],h=>by cases h
theorem Rz:∀{a b:List (List PV)},BY a b=true->a=b
 |[],[],_=>rfl
 |a::l,b::m,h=>by
  rw[BY,cu]at h;rw[Tu h.1,Rz h.2]
 |[],_::_,h=>by cases h
 |_::_,[],h=>by cases h
theorem aaQ{a b}(h:JT a b=true):a=b:=by
 unfold JT at h;split at h
 .rw[eD]at h;rw[h]
 .rename_i x y;rw[eD]at h;obtain⟨⟨x⟩⟩:=x;obtain⟨⟨y⟩⟩:=y;have h:x=y:=h;rw[h]
 .rw[Rz h]
 .cases h
theorem T2:∀{a b:List L},FO a b=true->a=b
 |[],[],_=>rfl
 |a::l,b::m,h=>by
  rw[FO,cu]at h;rw[aaQ h.1,T2 h.2]
 |[],_::_,h=>by cases h
 |_::_,[],h=>by cases h
theorem sb{o l}(h:wu o l=true):o=some l:=by
 unfold wu at h;split at h
 .rw[T2 h]
 .cases h
end
section
open Go.RowKit AI
attribute [local irreducible] bl.wp
section
variable{ρ:List L}{Q:Lf×List L->Prop}{k:bl}
end
end
end
end Go.Proofs.YtiikkkhcolcebaaGreatDoor
