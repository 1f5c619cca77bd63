/- A part. -/
import Derived.Test.YtndegphojkiblaaGreatDoorG26
import Derived.Test.YtndegphojkiblaaGreatDoorG30
import Derived.Test.YtndegphojkiblaaGreatDoorG36
import Derived.Test.YtndegphojkiblaaGreatDoorG37
set_option linter.all false
set_option maxHeartbeats 4000000
set_option maxRecDepth 100000
namespace Go.Proofs.YtndegphojkiblaaGreatDoor
noncomputable section
section
open Go.RowKit Pl AI
attribute [local irreducible] a8.wp
def fl(r:By):Prop:=∃l:List Nat,B8 l/\r=l.map b1
theorem fl.app{a b}(d:fl a)(h:fl b):fl (a++b):=by
 obtain⟨x,k,rfl⟩:=d;obtain⟨y,m,rfl⟩:=h;exact⟨x++y,λz o=>(fo.1 o).elim (k z) (m z),by rw[eB]⟩
theorem fl.take{a}(d:fl a)(n):fl (a.take n):=by
 obtain⟨x,h,rfl⟩:=d;exact⟨x.take n,h.take n,by rw[mW]⟩
theorem fl.drop{a}(d:fl a)(n):fl (a.drop n):=by
 obtain⟨x,h,rfl⟩:=d;exact⟨x.drop n,h.drop n,by rw[nX]⟩
theorem aso(n):fl (List.replicate n ie):=⟨List.replicate n 0,Tj n,by rw[u_];rfl⟩
theorem fl.T1{a}(d:fl a):cf 1 a=true:=by
 obtain⟨x,_,rfl⟩:=d;exact lO x
theorem avx{b w}(a:fl b)(c:fl w.data):fl (gD b w):=by
 unfold gD;split
 .exact a.take _
 .exact(((a.app (aso _)).take _).app c).app (a.drop _)
theorem aeg{a}:∀{b},fl b->(∀w∈a,fl w.data)->fl (dG b a):=by
 induction a with
 |nil=>exactλh _=>h
 |cons w a ih=>exactλh c=>ih (avx h (c w eJ)) λx d=>c x (fp _ d)
def nt(d:Dk):Prop:=oZ d/\∀f∈d.files,fl f.base/\∀w∈f.bT,fl w.data
theorem Yn{d}(f:nt d){s c}(h:Wh d s c):fl c/\c.length<=1048576:=by
 obtain⟨g,k,l,i,j,rfl⟩:=h;have a:=j.1;have b:=(g.2 i a).1.2;have hlen:=pL b.1 (pV.1 b.2) (dx _);rw[iT]at hlen;have e:=f.2 _ (cT a);exact⟨aeg e.1 e.2,hlen⟩
theorem Wv{d}(a:nt d){s}(g:s.size<=4611686018427387904):∃t b e,B8 b/\b.length<=1048576/\ud [.i d.cap,.i d.left,.r (d.files.map ch),.s s]=some [.b t,.r (b.map b1)]/\qc [.i d.cap,.i d.left,.r (d.files.map ch),.s s]=some [.r (b.map b1),.i e]/\(t=true↔e=0)/\(t=false->b=[]):=by
 by_cases h:∃c,Wh d s c
 .obtain⟨c,f⟩:=h;obtain⟨⟨b,l,rfl⟩,j⟩:=Yn a f;rw[bC]at j;exact⟨true,b,0,l,j,(abH a.1 g).1 _ f,(WV a.1 g).1 _ f,by simp,λh=>by cases h⟩
 .have k:∀c,¬Wh d s c:=λc f=>h ⟨c,f⟩
  obtain⟨e,m,i⟩:=(WV a.1 g).2 k;exact⟨false,[],e,(λx n=>by cases n),dc,(abH a.1 g).2 k,i,by simp[m],λ_=>rfl⟩
theorem YS(b):(∃e,e≠0/\oC b=oA e)\/∃(a g r n c0 c1 c2 c3 c4 c5:Int)(l:List It),l.length<=b.length/\oC b=[.i 0,.i a,.i g,.i r,.i n,.i c0,.i c1,.i c2,.i c3,.i c4,.i c5,.r (l.map bw)]:=by
 unfold oC;by_cases i:b.length<52
 .rw[bF i];exact .inl ⟨4,dc,rfl⟩
 rw[bO i];by_cases j:ca b 0 4≠ [78,73,68,88]
 .rw[bF j];exact .inl ⟨3,dc,rfl⟩
 rw[bO j];by_cases k:(b.length:Int)<vK b
 .rw[bF k];exact .inl ⟨4,dc,rfl⟩
 rw[bO k];by_cases o:vK b<b.length
 .rw[bF o];exact .inl ⟨3,dc,rfl⟩
 rw[bO o];by_cases p:eC (ca b 0 (b.length-4))≠ca b (b.length-4) b.length
 .rw[bF p];exact .inl ⟨5,dc,rfl⟩
 rw[bO p];have s:=qR b 48 (b.length-4);generalize ca b 48 (b.length-4)=c at s;rcases Dj (f:=c.length+1) (c:=c) (acc:=[]) om with⟨l,d,e2,e3⟩| ⟨e,d,e2⟩
 .rw[d];have e3:l.length<=0+c.length:=e3;by_cases q:∃m:List It,l.map bw=m.map bw/\js (val (ca b 4 6)).toInt (val (ca b 6 8)).toInt (val (ca b 8 12)).toInt (val (ca b 12 20)).toInt m
  .refine .inr ⟨(val (ca b 4 6)).toInt,(val (ca b 6 8)).toInt,(val (ca b 8 12)).toInt,(val (ca b 12 20)).toInt,dL b 0,dL b 1,dL b 2,dL b 3,dL b 4,dL b 5,l,om,?_⟩;exact(bO (λh=>h rfl)).trans (bF q)
  .refine .inl ⟨3,dc,?_⟩;exact(bO (λh=>h rfl)).trans (bO q)
 .rw[e2];exact .inl ⟨e,d,bF d⟩
def iG(id n:Nat)(e:List UInt8):fy:=⟨([118,46,UInt8.ofNat (48+id),46,UInt8.ofNat (48+n),46]++e).toArray⟩
def m_(k:Nat):List UInt8:=cond (Nat.beq k 1) [100,97,116] [105,100,120]
def rN(k:Nat):List UInt8:=[101,99,UInt8.ofNat (48+k)]
noncomputable section
def asQ:=rz 332 WR []
def VR:List L->Option (List L):=qU
theorem aqz:Gk VR qU:=λ_ _ h=>h
def X8:Gz:=⟨2021,VR,_,aqz⟩
def apj:=rz 331 QD [X8]
def Zz:List L->Option (List L):=wS
theorem aqW:Gk Zz wS:=λ_ _ h=>h
def aef:Gz:=⟨2022,Zz,_,aqW⟩
def MB:=rz 336 U' [asQ,X8,apj,aef]
def aab:=rz 337 Uj [MB]
def G54:=rz 54 UK []
def G53:=rz 53 XB []
def Vs:=rz 55 UE [G54,G53]
def G56:=rz 56 UQ [Vs]
def XF:=rz 68 Xv [Vs]
end
def CG(j:Nat):List L:=[.i (j/32*3+1:Nat),.i (j%32/8:Nat),.i (j%8+1:Nat)]
theorem apO:(List.range 64).all (λj=>lW (aab.g (CG j)) [.s (iG (j%32/8) (j%8+1) (m_ (j/32*3+1)))])=true:=kr
theorem aor:(List.range 64).all (λj=>lW (G56.g (CG j)) [.s (iG (j%32/8) (j%8+1) (m_ (j/32*3+1)))])=true:=kr
theorem ald:(List.range 192).all (λj=>lW (MB.g [.i 5,.i (j%32/8:Nat),.i (j%8+1:Nat),.i (j/32:Nat),.b false]) [.s (iG (j%32/8) (j%8+1) (rN (j/32))),.i 0])=true:=kr
theorem anY:(List.range 192).all (λj=>lW (XF.g [.i (j%32/8:Nat),.i (j%8+1:Nat),.i (j/32:Nat)]) [.s (iG (j%32/8) (j%8+1) (rN (j/32)))])=true:=kr
theorem Ge{i n k}(a:i<4)(b:n<8):(k*32+i*8+n)%32/8=i/\(k*32+i*8+n)%8=n/\(k*32+i*8+n) /32=k:=om
theorem Lr{i n k:Nat}(a:i<4)(b:n<8)(d:k<2):FE [.i (k*3+1:Nat),.i i,.i (n+1:Nat)]=some [.s (iG i (n+1) (m_ (k*3+1)))]:=by
 have:=aab.h _ _ (mH (cj.1 apO _ (jZ.2 (show k*32+i*8+n<64 by omega))));obtain⟨c,e2,e3⟩:=Ge (k:=k) a b;unfold CG at this
 rwa [c,e2,e3]at this
theorem BZ{i n k:Nat}(a:i<4)(b:n<8)(d:k<2):yk [.i (k*3+1:Nat),.i i,.i (n+1:Nat)]=some [.s (iG i (n+1) (m_ (k*3+1)))]:=by
 have:=G56.h _ _ (mH (cj.1 aor _ (jZ.2 (show k*32+i*8+n<64 by omega))));obtain⟨c,e2,e3⟩:=Ge (k:=k) a b;unfold CG at this
 rwa [c,e2,e3]at this
theorem arU{i n k:Nat}(a:i<4)(b:n<8)(d:k<6):DQ [.i 5,.i i,.i (n+1:Nat),.i k,.b false]=some [.s (iG i (n+1) (rN k)),.i 0]:=by
 have:=MB.h _ _ (mH (cj.1 ald _ (jZ.2 (show k*32+i*8+n<192 by omega))));obtain⟨c,e2,e3⟩:=Ge (k:=k) a b
 rwa [c,e2,e3]at this
theorem asW{i n k:Nat}(a:i<4)(b:n<8)(d:k<6):Cd [.i i,.i (n+1:Nat),.i k]=some [.s (iG i (n+1) (rN k))]:=by
 have:=XF.h _ _ (mH (cj.1 anY _ (jZ.2 (show k*32+i*8+n<192 by omega))));obtain⟨c,e2,e3⟩:=Ge (k:=k) a b
 rwa [c,e2,e3]at this
theorem Nb(i n){e}(h:e.length<=10):(iG i n e).size<=4611686018427387904:=by
 have:(iG i n e).size=6+e.length:=by
  show([118,46,UInt8.ofNat (48+i),46,UInt8.ofNat (48+n),46]++e).toArray.size=_;rw[qt,ez];rfl
 omega
theorem Zt(k):(m_ k).length<=10:=by unfold m_;cases Nat.beq k 1<;>decide
theorem Vd{α a:Type}(g:α->a)(f)(i):((List.range i).map f).map g++[g (f i)]=((List.range (i+1)).map f).map g:=by
 rw[BB,eB,eB];rfl
theorem arS{d:Dk}{ii n}(hi:ii<4)(hn:n<8){sh:Nat->Bool×List Nat}(h:∀k,k<6->∃e,qc [.i d.cap,.i d.left,.r (d.files.map ch),.s (iG ii (n+1) (rN k))]=some [.r ((sh k).2.map b1),.i e]/\((sh k).1=true↔e=0)):
 Ig [.i d.cap,.i d.left,.r (d.files.map ch),.i ii,.i (n+1:Nat)]=some [.r (((List.range 6).map λk=>(sh k).2).map fR),.r (((List.range 6).map λk=>(sh k).1).map hR)]:=by
 refine bN ?_;refine bE (λxs=>xs=[.r (((List.range 6).map λk=>(sh k).2).map fR),.r (((List.range 6).map λk=>(sh k).1).map hR)]) ?_ ?_;rotate_left
 .rintro _ rfl;refine nW ?_;exact a7 rfl
 refine wp_loop (I:=λx=>∃i:Nat,x=[.i i,.r (((List.range i).map λk=>(sh k).2).map fR),.r (((List.range i).map λk=>(sh k).1).map hR)]/\i<=6) (mu:=λx=>match x with|[.i i,_,_]=>6-i.toNat|_=>0) ⟨0,rfl,om⟩ ?_;rintro x ⟨i,rfl,e1⟩;refine uR ?_;refine bG rfl (λhc=>?_) (λhc=>?_);rotate_left
 .obtain rfl:i=6:=om;exact a7 rfl
 obtain⟨e,h1,h2⟩:=h i om;refine bu (asW hi hn (show i<6 by omega)) rfl rfl (nW ?_);refine bu h1 rfl rfl (uR ?_);refine fa (r:=((List.range (i+1)).map λk=>(sh k).2).map fR) (AH _) rfl (by try dsimp only[At.ev,d1,d2,d3,d4,d5,d6,d7,d8,d9,e0,List.map,cH,Kd.pv];rw[bC,bC,List.length_range];omega) oO dc (Vd fR (λk=>(sh k).2) i) (uR ?_);have hap:=Vd hR (λk=>(sh k).1) i;have GH:(sh i).1=decide (e=0):=by rw[hZ,dj];exact h2
 rw[GH]at hap;have O6:cf 1 (((List.range i).map λk=>(sh k).1).map hR)=true:=by
  unfold cf;rw[cj];intro x hx;obtain⟨y,_,rfl⟩:=eV.1 hx;rfl
 refine fa (r:=((List.range (i+1)).map λk=>(sh k).1).map hR) O6 rfl (by try dsimp only[At.ev,d1,d2,d3,d4,d5,d6,d7,d8,d9,e0,List.map,cH,Kd.pv];rw[bC,bC,List.length_range];omega) oO dc hap (nW ?_);refine cm (i:=i) rfl om (nW ?_);refine a7 ⟨⟨i+1,rfl,om⟩,?_⟩;show 6- ((i+1:Nat):Int).toNat<6-i;omega
theorem akd{d}(hd:nt d){ii n:Nat}(uZ:ii<4)(hn:n<8)(x:It):∃(e key cookie:Int)(del:Bool)(data:List Nat),E7 [.i d.cap,.i d.left,.r (d.files.map ch),.i ii,.i (n+1:Nat),.i x.key,.i x.cookie,.i x.off,.i x.size]=some [.i e,.i key,.i cookie,.b del,.r (data.map b1)]/\Ey [.i d.cap,.i d.left,.r (d.files.map ch),.i ii,.i (n+1:Nat),.i x.key,.i x.cookie,.i x.off,.i x.size]=some [.i e,.i key,.i cookie,.b del,.r (data.map b1)]:=by
 by_cases h0:d.left=0
 .refine⟨13,0,0,false,[],?_,?_⟩
  .refine bN ?_;refine uR ?_;refine fD rfl h0 ?_;exact a7 rfl
  .refine bN ?_;refine uR ?_;refine fD rfl h0 ?_;exact a7 rfl
 obtain⟨t,b,e0,hb,hbl,hwP,PW,hte,htb⟩:=Wv hd (s:=iG ii (n+1) (m_ 4)) (Nb _ _ (Zt 4));have xA:=ags b hb om;have GN:=aoZ b hb om;have bad:(t=false\/∃e:Int,e≠0/\oC b=oA e)->E7 [.i d.cap,.i d.left,.r (d.files.map ch),.i ii,.i (n+1:Nat),.i x.key,.i x.cookie,.i x.off,.i x.size]=some [.i 11,.i 0,.i 0,.b false,.r []]/\Ey [.i d.cap,.i d.left,.r (d.files.map ch),.i ii,.i (n+1:Nat),.i x.key,.i x.cookie,.i x.off,.i x.size]=some [.i 11,.i 0,.i 0,.b false,.r []]:=by
  intro fW;constructor
  .refine bN ?_;refine uR ?_;refine db rfl h0 ?_;refine bu (Lr (k:=1) uZ hn om) rfl rfl (nW ?_);refine bu hwP rfl rfl (nW ?_);rcases YS b with⟨e,he,u4⟩| ⟨a,g,r,m,c0,c1,c2,c3,c4,c5,l,hll,u4⟩
   .rw [u4]at xA;refine mv (f:=bw) (m:=[]) (λ_=>rfl) xA rfl rfl (nW ?_);refine bE (λxs=>xs=[.b true]) ?_ ?_
    .refine uR ?_;refine bZ (λhx=>?_) (λhx=>?_)
     .exact a7 rfl
     .refine uR ?_;refine a7 ?_;exact dT he
    rintro _ rfl;refine nW ?_;refine eL rfl ?_;exact a7 rfl
   .have ht:t=false:=by
     rcases fW with h| ⟨e,he,h⟩
     .exact h
     .rw[h]at u4;have:=(List.cons.inj u4).1;injection this with this
      exact absurd this he
    rw[u4]at xA;subst ht;refine mv (f:=bw) (m:=l) (λ_=>rfl) xA rfl rfl (nW ?_);refine bE (λxs=>xs=[.b true]) ?_ ?_
    .refine uR ?_;refine eL rfl ?_;exact a7 rfl
    rintro _ rfl;refine nW ?_;refine eL rfl ?_;exact a7 rfl
  .have ayE:∃e:Int,e≠0/\DM [.i d.cap,.i d.left,.r (d.files.map ch),.i ii,.i (n+1:Nat)]=some (oA e):=by
    by_cases xC:e0=0
    .have ht:t=true:=hte.2 xC;rcases fW with h| ⟨e,he,h⟩
     .rw[ht]at h;cases h
     .refine⟨e,he,bN ?_⟩;refine bu (BZ (k:=1) uZ hn om) rfl rfl (nW ?_);refine bu PW rfl rfl (uR ?_);refine db rfl (λh=>h xC) ?_;rw[h]at GN;refine bu GN rfl rfl (nW ?_);exact a7 rfl
    .refine⟨e0,xC,bN ?_⟩;refine bu (BZ (k:=1) uZ hn om) rfl rfl (nW ?_);refine bu PW rfl rfl (uR ?_);refine fD rfl xC ?_;exact a7 rfl
   obtain⟨e,he,PX⟩:=ayE;refine bN ?_;refine uR ?_;refine db rfl h0 ?_;refine bu PX rfl rfl ?_;refine uR ?_;refine fD rfl he ?_;exact a7 rfl
 cases t with
 |false=>exact⟨11,0,0,false,[],bad (.inl rfl)⟩
 |true=>
  rcases YS b with Bh| ⟨a,g,r,m,c0,c1,c2,c3,c4,c5,l,hll,u4⟩
  .exact⟨11,0,0,false,[],bad (.inr Bh)⟩
  have xC:e0=0:=hte.1 rfl;subst xC;rw[u4]at xA GN;have hex:∀k:Nat,∃s:Bool×List Nat,B8 s.2/\s.2.length<=1048576/\ud [.i d.cap,.i d.left,.r (d.files.map ch),.s (iG ii (n+1) (rN k))]=some [.b s.1,.r (s.2.map b1)]/\∃e:Int,qc [.i d.cap,.i d.left,.r (d.files.map ch),.s (iG ii (n+1) (rN k))]=some [.r (s.2.map b1),.i e]/\(s.1=true↔e=0):=λk=>by
   obtain⟨t,b,e,h1,h2,h3,h4,h5,_⟩:=Wv hd (s:=iG ii (n+1) (rN k)) (Nb _ _ (by exact(by decide:3<=10)));exact⟨(t,b),h1,h2,h3,e,h4,h5⟩
  obtain⟨sh,o4⟩:=Classical.axiomOfChoice hex;have hfR:=arS (d:=d) uZ hn (sh:=sh) λk _=>(o4 k).2.2.2
  obtain⟨fs,AX⟩:∃fs,(List.range 6).map (λk=>(sh k).2)=fs:=⟨_,rfl⟩
  obtain⟨hv,PY⟩:∃hv,(List.range 6).map (λk=>(sh k).1)=hv:=⟨_,rfl⟩
  have GO:fs.length=6:=by rw[<-AX];simp
  have GP:hv.length=6:=by rw[<-PY];simp
  have hfa:∀k(h:k<fs.length),fs[k]=(sh k).2:=by subst AX;intro k h;simp
  have GL:∀k(h:k<hv.length),hv[k]=(sh k).1:=by subst PY;intro k h;simp
  have hB:∀f∈fs,B8 f:=λf hf=>by
   obtain⟨k,hk,rfl⟩:=iE hf;rw[hfa];exact(o4 k).1
  rw[AX,PY]at hfR;obtain⟨e,key,cookie,del,data,hPP,hRR⟩:=aeA a g r m (.i c0) (.i c1) (.i c2) (.i c3) (.i c4) (.i c5) (l:=l) om GO GP hB x;refine⟨e,key,cookie,del,data,?_,?_⟩
  .refine bN ?_;refine uR ?_;refine db rfl h0 ?_;refine bu (Lr (k:=1) uZ hn om) rfl rfl (nW ?_);refine bu hwP rfl rfl (nW ?_);refine mv (f:=bw) (m:=l) (λ_=>rfl) xA rfl rfl (nW ?_);refine bE (λxs=>xs=[.b false]) ?_ ?_
   .refine uR ?_;refine cZ rfl (uR ?_);refine a7 ?_;exact dF (λh=>h rfl)
   rintro _ rfl;refine nW ?_;refine cZ rfl ?_;refine nu (r:=(List.replicate 6 ([]:List Nat)).map fR) (by try dsimp only[At.ev,d1,d2,d3,d4,d5,d6,d7,d8,d9,e0,List.map,cH,Kd.pv];exact⟨dc,dc,dc⟩) rfl (nW ?_);refine nu (r:=(List.replicate 6 false).map hR) (by try dsimp only[At.ev,d1,d2,d3,d4,d5,d6,d7,d8,d9,e0,List.map,cH,Kd.pv];exact⟨dc,dc,dc⟩) rfl (nW ?_);refine bE (λxs=>xs=[.r (fs.map fR),.r (hv.map hR)]) ?_ ?_
   .refine uR ?_;refine wp_loop (I:=λy=>∃i:Nat,y=[.i i,.r ((fG [] fs 6 i).map fR),.r ((fG false hv 6 i).map hR)]/\i<=6) (mu:=λy=>match y with|[.i i,_,_]=>6-i.toNat|_=>0) ⟨0,rfl,om⟩ ?_;rintro y ⟨i,rfl,e1⟩;have uU:=Cs (d:=([]:List Nat)) GO e1;have hhl:=Cs (d:=false) GP e1;refine uR ?_;refine bG rfl (λhc=>?_) (λhc=>?_);rotate_left
    .have hc:¬(i:Int)<6:=hc;obtain rfl:i=6:=om;refine a7 ?_;show[L.r ((fG [] fs 6 6).map fR),L.r ((fG false hv 6 6).map hR)]=_;rw[E_ GO,E_ GP]
    have hc:(i:Int)<6:=hc;have hi:i<6:=om;have hst:=B7 (d:=([]:List Nat)) GO hi (hfa i om).symm;have hsu:=B7 (d:=false) GP hi (GL i om).symm;refine bu (arU uZ hn hi) rfl rfl (nW ?_);refine bu (o4 i).2.2.1 rfl rfl (nW ?_);refine bU (f:=fR) (j:=i) rfl rfl (show i< (fG [] fs 6 i).length by omega) rfl (nW ?_);refine lS (f:=fR) (j:=i) (v:=(sh i).2) rfl rfl (show i< (fG [] fs 6 i).length by omega) rfl rfl ?_;rw[hst];refine nW ?_;refine bU (f:=hR) (j:=i) rfl rfl (show i< (fG false hv 6 i).length by omega) rfl (nW ?_);refine lS (f:=hR) (j:=i) (v:=(sh i).1) rfl rfl (show i< (fG false hv 6 i).length by omega) rfl rfl ?_;rw[hsu];refine nW ?_;refine cm (i:=i) rfl om (nW ?_);refine a7 ⟨⟨i+1,rfl,om⟩,?_⟩;show 6- ((i+1:Nat):Int).toNat<6-i;omega
   rintro _ rfl;refine nW ?_;refine mv (f:=b1) (m:=data) (λ_=>rfl) hPP rfl rfl (nW ?_);exact a7 rfl
  .have PX:DM [.i d.cap,.i d.left,.r (d.files.map ch),.i ii,.i (n+1:Nat)]=some [.i 0,.i a,.i g,.i r,.i m,.i c0,.i c1,.i c2,.i c3,.i c4,.i c5,.r (l.map bw)]:=by
    refine bN ?_;refine bu (BZ (k:=1) uZ hn om) rfl rfl (nW ?_);refine bu PW rfl rfl (uR ?_);refine db rfl (λh=>h rfl) ?_;refine bu GN rfl rfl (nW ?_);exact a7 rfl
   refine bN ?_;refine uR ?_;refine db rfl h0 ?_;refine bu PX rfl rfl (uR ?_);refine db rfl (λh=>h rfl) ?_;refine bu hfR rfl rfl (nW ?_);refine mv (f:=b1) (m:=data) (λ_=>rfl) hRR rfl rfl (nW ?_);exact a7 rfl
def Nf(x:It)(e key cookie:Int)(a:Bool)(data:List Nat):Prop:=e=0/\a=false/\key=x.key/\cookie=x.cookie/\(data.length:Int)=x.size
theorem agl{d}(p:nt d){i n:Nat}(J:i<4)(K:n<8)(x:It):∃(ok:Bool)(key cookie:Int)(q:Bool)(data:List Nat),
 KT [.i d.cap,.i d.left,.r (d.files.map ch),.i i,.i (n+1:Nat),.i x.key,.i x.cookie,.i x.off,.i x.size]=some [.b ok,.i key,.i cookie,.b q,.r (data.map b1)]/\
 Nv [.i d.cap,.i d.left,.r (d.files.map ch),.i i,.i (n+1:Nat),.i x.key,.i x.cookie,.i x.off,.i x.size]=some (if ok=true then[.i 0,.i key,.i cookie,.b q,.r (data.map b1)]else[.i 11,.i 0,.i 0,.b false,.r []]):=by
 have w:=Nb i (n+1) (Zt 1);obtain⟨b,z,A,L,C,hR,D⟩:∃(b:List Nat)(z:Int),B8 b/\b.length<=1048576/\(∃e,p7 [.i d.cap,.i d.left,.r (d.files.map ch),.s (iG i (n+1) (m_ 1)),.i x.off,.i (cJ x.size)]=some [.i e,.r (b.map b1)])/\
  nZ [.i d.cap,.i d.left,.r (d.files.map ch),.s (iG i (n+1) (m_ 1)),.i x.off,.i (cJ x.size)]=some [.r (b.map b1),.i z]/\(z≠0->b=[]):=by
  by_cases h:∃c,Wh d (iG i (n+1) (m_ 1)) c
  .obtain⟨c,r⟩:=h;obtain⟨⟨b,A,rfl⟩,M⟩:=Yn p r;rw[bC]at M;have f:=(IY p.1 w).1 _ r x.off (cJ x.size);have a:=(JZ p.1 w).1 _ r x.off (cJ x.size);by_cases o:jq (b.map b1) x.off (cJ x.size)
   .exact⟨[],2,(λy E=>by cases E),gk _,⟨2,f.1 o⟩,a.1 o,λ_=>rfl⟩
   .rw[<-mW,<-nX]at f a;exact⟨_,0,(A.take _).drop _,by grind,⟨0,f.2 o⟩,a.2 o,λh=>absurd rfl h⟩
  .have s:∀c,¬Wh d (iG i (n+1) (m_ 1)) c:=λc r=>h ⟨c,r⟩
   obtain⟨e,Q,f⟩:=(IY p.1 w).2 s;obtain⟨N,O,a⟩:=(JZ p.1 w).2 s;exact⟨[],N,(λy E=>by cases E),gk _,⟨e,f _ _⟩,a _ _,λ_=>rfl⟩
 obtain⟨R,C⟩:=C;obtain⟨S,F,B,dc,dd,data,hdec⟩:=B6 b;have u:=abD b A om;have v:=UD b A om;rw[hdec]at u v;obtain⟨ok,l⟩:=dC (Nf x F B dc dd data);have G:z≠0->ok=false:=λh=>ft l λo=>by
  rw[D h]at hdec;injection hdec with f a
  injection a with g j
  injection g with g
  have:=o.1;omega
 refine⟨ok,B,dc,dd,data,?_,?_⟩
 .refine bN ?_;refine bu (Lr (k:=0) J K om) rfl rfl ?_;refine nW ?_;refine bu (qQ x.size) rfl rfl ?_;refine nW ?_;refine bu C rfl rfl ?_;refine nW ?_;refine KA (m:=data) u rfl rfl ?_;refine nW ?_;refine bE (cI (Nf x F B dc dd data)) ?_ ?_
  .refine uR ?_;refine bG rfl (λf=>?_) λf=>a7 (d_ λh=>f h.1)
   refine uR ?_;refine bZ (λa=>?_) (λa=>?_);rotate_left
   .exact a7 (d_ λh=>by rw[h.2.1]at a;cases a)
   have a:(!dd)=true:=a;have a:dd=false:=by simpa using a
   refine uR ?_;refine bG rfl (λg=>?_) λg=>a7 (d_ λh=>g h.2.2.1)
   refine uR ?_;refine bG rfl (λj=>?_) λj=>a7 (d_ λh=>j h.2.2.2.1)
   refine uR ?_;rw[bC];exact a7 (d' ⟨λh=>⟨f,a,g,j,h⟩,λh=>h.2.2.2.2⟩)
  .rintro _ ⟨t,rfl,H⟩;refine nW ?_;refine a7 ?_;rw[hZ.2 (l.trans H.symm)];rfl
 .refine bN ?_;refine bu (BZ (k:=0) J K om) rfl rfl ?_;refine nW ?_;refine bu (pH x.size) rfl rfl ?_;refine nW ?_;refine bu hR rfl rfl ?_;refine uR ?_;refine bG rfl (λP=>?_) λP=>?_
  .rw[bO (by simp_all)];exact a7 rfl
  refine bu v rfl rfl ?_;refine nW ?_;refine bE (cI (¬Nf x F B dc dd data)) ?_ ?_
  .refine uR ?_;refine bG rfl (λf=>a7 (cC λh=>f h.1)) λf=>?_
   refine bZ (λa=>?_) (λa=>?_)
   .exact a7 (cC λh=>by rw[h.2.1]at a;cases a)
   refine uR ?_;refine bG rfl (λg=>a7 (cC λh=>g h.2.2.1)) λg=>?_
   refine uR ?_;refine bG rfl (λj=>a7 (cC λh=>j h.2.2.2.1)) λj=>?_
   refine uR ?_;rw[bC];exact a7 (d' ⟨λh I=>h I.2.2.2.2,λh I=>h ⟨eM.1 f,a,eM.1 g,eM.1 j,I⟩⟩)
  .rintro _ ⟨t,rfl,H⟩;refine nW ?_;refine ik rfl H (λh=>?_) λh=>?_
   .rw[bO (by simp_all)];exact a7 rfl
   .rw[bF (l.2 (eM.1 h))];exact a7 rfl
structure Rs where
 key:Int
 cookie:Int
 ee:Int
 gen:Int
 mode:Int
 rev:Int
 x:It
 tries:Int
def kf(y:Int×Int×Bool×List Nat×Int):List PV:=[.sc (.int .u64 y.1),.sc (.int .u32 y.2.1),.sc (.bool y.2.2.1),.sl (y.2.2.2.1.map b1),.sc (.int .i64 y.2.2.2.2)]
def mh(gens:List Gn)(k:Int)(i:Nat):Prop:=∃h:i<gens.length,gens[i].num=k
theorem Tw{id limit gens}(c:kK id limit gens){k i j}(a:mh gens k i)(b:mh gens k j):i=j:=by
 have mono:∀(n p:Nat)(h:p+1+n<gens.length),(gens[p]'om).num<gens[p+1+n].num:=λn=>by
  induction n with
  |zero=>
   intro p h;exact(c.2.1 (p+1) h h).2.2.1 om
  |succ n ih=>
   intro p h;have d:=ih p om;have e:=(c.2.1 (p+1+(n+1)) h h).2.2.1 om;grind
 obtain⟨a,f⟩:=a;obtain⟨b,e2⟩:=b;rcases GX i j with h|h|h
 .obtain⟨n,rfl⟩:∃n,j=i+1+n:=⟨j-i-1,om⟩
  have:=mono n i b;omega
 .exact h
 .obtain⟨n,rfl⟩:∃n,i=j+1+n:=⟨i-j-1,om⟩
  have:=mono n j a;omega
theorem akJ{gens}(hn:gens.length<=1000)(gen mode rev)(x:It):∃i,OE [.r (gens.map da),.i gen,.i mode,.i rev,.i x.key,.i x.cookie,.i x.off,.i x.size]=some [.i i]/\((∃j:Nat,i=j/\mh gens gen j)\/(i= -1/\∀j,¬mh gens gen j)):=by
 suffices h:∃o,Fo Kl [.r (gens.map da),.i gen,.i mode,.i rev,.i x.key,.i x.cookie,.i x.off,.i x.size]=some o/\∃i:Int,o=[.i i]/\((∃j:Nat,i=j/\mh gens gen j)\/(i= -1/\∀j,¬mh gens gen j))by
  obtain⟨o,h1,i,rfl,h2⟩:=h;exact⟨i,h1,h2⟩
 refine gi ?_;unfold Kl;refine bE (λxs=>xs=[]/\∀j,¬mh gens gen j) ?_ (by rintro _ ⟨rfl,h⟩;exact a7 ⟨-1,rfl,.inr ⟨rfl,h⟩⟩);refine uR ?_;rw[bC];refine wp_loop (I:=λa=>∃i:Nat,a=[.i i]/\i<=gens.length/\∀j,j<i->¬mh gens gen j) (mu:=λa=>match a with|[.i i]=>gens.length-i.toNat|_=>0) ⟨0,rfl,om,λj hj=>by omega⟩ ?_;rintro a ⟨i,rfl,e1,e2⟩;refine uR ?_;refine bG rfl (λhc=>?_) (λhc=>a7 ⟨rfl,λj hj=>e2 j (by have:=hj.1;omega) hj⟩);have hi:i<gens.length:=om;refine bU (f:=da) (l:=gens) (j:=i) rfl rfl hi rfl ?_;refine uR ?_;have ayH:∀l:List L,NU (rA gens[i]++[.i gen,.i mode,.i rev,.i x.key,.i x.cookie,.i x.off,.i x.size])=some [.b (decide (gens[i].num=gen))]:=λ_=>by
  rfl
 refine bu (ayH []) rfl rfl ?_;refine nW ?_;refine ik rfl decide_eq_true_iff (λh=>a7 ⟨i,rfl,.inl ⟨i,rfl,hi,h⟩⟩) λh=>?_
 refine cm (i:=i) rfl om ?_;refine nW ?_;refine a7 ⟨⟨i+1,rfl,om,λj hj=>?_⟩,?_⟩
 .by_cases e:j=i
  .subst e;exactλ⟨_,h'⟩=>h h'
  .exact e2 j om
 .show gens.length- ((i+1:Nat):Int).toNat<gens.length-i;omega
def EL(r:Rs)(g:Gn):Prop:=g.rev=r.rev/\(g.mode=3->r.mode=3)
def RS(gens:List Gn)(r:Rs)(n:Nat)(mode:Int)(b:Bool):Prop:=((∀j,j<n->¬mh gens r.gen j)->b=false)/\∀j(h:mh gens r.gen j),j<n->mode=(gens[j]'h.1).mode/\(b=true↔EL r (gens[j]'h.1))
def alf:a8:=match Xm with
 |.join a _=>a
 |x=>x
theorem Qq{a0 a1 a2 id limit ro gens}(hv:kK id limit gens)(r){Q}:alf.wp [a0,a1,a2,.i id,.i limit,ro,.r (gens.map da),.i r.key,.i r.cookie,.i r.ee,.i r.gen,.i r.mode,.i r.rev,.i r.x.key,.i r.x.cookie,.i r.x.off,.i r.x.size,.i r.tries] (jQ (λxs=>∃mode b,xs=[.i mode,.b b]/\RS gens r gens.length mode b) Q):=by
 have hgn:=hv.1.2.2;refine wp_loop (I:=λa=>∃(mode:Int)(b:Bool)(i:Nat),a=[.i mode,.b b,.i i]/\i<=gens.length/\RS gens r i mode b) (mu:=λa=>match a with|[_,_,.i i]=>gens.length-i.toNat|_=>0) ⟨0,false,0,rfl,om,λ_=>rfl,λj h hj=>by omega⟩ ?_;rintro a ⟨mode,b,i,rfl,e1,e2,e3⟩;refine uR ?_;rw[bC];refine bG rfl (λhc=>?_) (λhc=>by
  obtain rfl:i=gens.length:=om;exact a7 ⟨mode,b,rfl,e2,e3⟩)
 have hi:i<gens.length:=om;refine bE (λxs=>∃(mode:Int)(b:Bool),xs=[.i mode,.b b]/\RS gens r (i+1) mode b) ?_ ?_
 .refine bU (f:=da) (l:=gens) (j:=i) rfl rfl hi rfl ?_;refine uR ?_;have step:∀b':Bool,gens[i].num=r.gen->(b'=true↔EL r gens[i])->RS gens r (i+1) gens[i].mode b':=λb' hn hb=>⟨λh=>absurd ⟨hi,hn⟩ (h i om),λj hj hlt=>by
   obtain rfl:=Tw hv hj ⟨hi,hn⟩;simp_all⟩
  refine bG rfl (λh1=>?_) λh1=>?_
  .refine uR ?_;refine bG rfl (λh2=>?_) λh2=>?_
   .refine uR ?_;refine bG rfl (λh3=>?_) λh3=>?_
    .exact a7 ⟨_,true,rfl,step true h1 (ng ⟨h2,λh=>absurd h h3⟩)⟩
    .refine uR ?_;exact a7 ⟨_,_,rfl,step _ h1 (decide_eq_true_iff.trans ⟨λh=>⟨h2,λ_=>h⟩,λh=>h.2 (eM.1 h3)⟩)⟩
   .exact a7 ⟨_,false,rfl,step false h1 (zC λh=>h2 h.1)⟩
  .exact a7 ⟨mode,b,rfl,λh=>e2 λj hj=>h j om,λj hj hlt=>e3 j hj (by
    by_cases e:j=i
    .subst e;exact absurd hj.2 h1
    .omega)⟩
 .rintro _ ⟨mode,b,rfl,h⟩;refine nW ?_;refine cm (i:=i) rfl om ?_;refine nW ?_;refine a7 ⟨⟨mode,b,i+1,rfl,om,h⟩,?_⟩;show gens.length- ((i+1:Nat):Int).toNat<gens.length-i;omega
def pM(e key cookie:Int)(a:Bool)(data:List Nat):Int×Int×Bool×List Nat×Int:=if e=0 then(key,cookie,a,data,0)else(0,0,false,[],11)
theorem ass{d}(I:nt d){id limit ro gens}(q:kK id limit gens)(r:Rs):∃(ee tries:Int)(ys:List (Int×Int×Bool×List Nat×Int)),ys.length<=1/\
 Iv [.i r.key,.i r.cookie,.i r.ee,.i r.gen,.i r.mode,.i r.rev,.i r.x.key,.i r.x.cookie,.i r.x.off,.i r.x.size,.i r.tries,.i d.cap,.i d.left,.r (d.files.map ch),.i id,.i limit,ro,.r (gens.map da)]=some [.i ee,.i tries,.r (ys.map kf)]/\
 Ml [.i d.cap,.i d.left,.r (d.files.map ch),.i id,.i limit,ro,.r (gens.map da),.i r.key,.i r.cookie,.i r.ee,.i r.gen,.i r.mode,.i r.rev,.i r.x.key,.i r.x.cookie,.i r.x.off,.i r.x.size,.i r.tries]=some [.i ee,.i tries,.r (ys.map kf)]:=by
 have P:=q.1.2.2;obtain⟨Q,w,m⟩:=akJ (gens:=gens) om r.gen r.mode r.rev r.x;by_cases J:∃j,∃h:mh gens r.gen j,EL r (gens[j]'h.1);rotate_left
 .have E:∀j(h:mh gens r.gen j),¬EL r (gens[j]'h.1):=λj h R=>J ⟨j,h,R⟩
  refine⟨0,IntKind.wrap .i64 (r.tries+1),[],gk _,?_,?_⟩
  .refine bN ?_;refine bu w rfl rfl ?_;refine nW ?_;refine bE (λxs=>xs=[.b true]) ?_ (by
    rintro _ rfl;refine nW ?_;refine eL rfl ?_;refine cP rfl ?_;exact a7 rfl)
   rcases m with⟨j,rfl,a⟩| ⟨rfl,h⟩
   .have i:=E j a;refine uR ?_;refine db rfl om ?_;refine bU (f:=da) (l:=gens) (j:=j) rfl rfl a.1 rfl ?_;refine uR ?_;refine bG rfl (λx=>a7 rfl) λx=>?_
    refine bU (f:=da) (l:=gens) (j:=j) rfl rfl a.1 rfl ?_;refine uR ?_;refine bG rfl (λp=>?_) λp=>absurd ⟨eM.1 x,λh=>absurd h p⟩ i
    refine uR ?_;exact a7 (dT λS=>i ⟨eM.1 x,λ_=>S⟩)
   .refine uR ?_;refine fD rfl dc ?_;exact a7 rfl
  .refine bN ?_;refine bE (λxs=>∃(mode:Int)(b:Bool),xs=[.i mode,.b b]/\RS gens r gens.length mode b) ?_ ?_
   .exact Qq q r
   rintro _ ⟨mode,b,rfl,x,p⟩;have F:b=false:=by
    grind
   subst F;refine uR ?_;refine eL rfl ?_;refine cP rfl ?_;refine nW ?_;exact a7 rfl
 obtain⟨j,a,i⟩:=J;obtain rfl:Q=j:=by
  rcases m with⟨V,rfl,G⟩| ⟨_,h⟩
  .rw[Tw q a G]
  grind
 obtain⟨H,rfl⟩:∃H:Nat,id=H:=⟨id.toNat,by have:=q.1.1;omega⟩
 have z:H<4:=by have:=q.1.1;omega
 have T:=(q.2.1 j a.1 a.1).1.1;obtain⟨n,U⟩:∃n:Nat,r.gen=((n+1:Nat):Int):=⟨(r.gen-1).toNat,by have:=a.2;omega⟩
 have A:n<8:=by have:=a.2;omega
 obtain⟨K,L,cl,M,N,B,C⟩:=akd I z A r.x;obtain⟨s,kr,O,dr,tr,D,u⟩:=agl I z A r.x;rw[<-U]at B C D u;obtain⟨y,g⟩:∃y,y=(if(gens[j]'a.1).mode=3 then pM K L cl M N else pM (if s=true then 0 else 11) kr O dr tr):=⟨_,rfl⟩
 refine⟨r.ee,r.tries,[y],dx _,?_,?_⟩
 .refine bN ?_;refine bu w rfl rfl ?_;refine nW ?_;refine bE (λxs=>xs=[.b false]) ?_ ?_
  .refine uR ?_;refine db rfl om ?_;refine bU (f:=da) (l:=gens) (j:=j) rfl rfl a.1 rfl ?_;refine uR ?_;refine db rfl (λh=>h i.1) ?_;refine bU (f:=da) (l:=gens) (j:=j) rfl rfl a.1 rfl ?_;refine uR ?_;refine bG rfl (λp=>?_) λp=>a7 rfl
   refine uR ?_;exact a7 (dF λh=>h (i.2 p))
  rintro _ rfl;refine nW ?_;refine cZ rfl ?_;refine bE (λxs=>xs=[.i y.1,.i y.2.1,.b y.2.2.1,.i y.2.2.2.2,.r (y.2.2.2.1.map b1)]) ?_ (by
   rintro _ rfl;refine uR ?_;exact a7 rfl)
  refine bU (f:=da) (l:=gens) (j:=j) rfl rfl a.1 rfl ?_;refine uR ?_;refine bG rfl (λv=>?_) λv=>?_
  .rw[bF v]at g;refine bu B rfl rfl ?_;refine uR ?_;refine bG rfl (λo=>a7 ?_) λo=>a7 ?_
   .rw[g,pM,bF o];rfl
   .rw[g,pM,bO o];rfl
  .rw[bO v]at g;refine bu D rfl rfl ?_;refine nW ?_;refine bZ (λo=>a7 ?_) λo=>a7 ?_
   .rw[g,pM,bF (show s=true from o),bF rfl];rfl
   .subst o;rw[g,bO dc,pM,bO dc];rfl
 .refine bN ?_;refine bE (λxs=>∃(mode:Int)(b:Bool),xs=[.i mode,.b b]/\RS gens r gens.length mode b) ?_ ?_
  .exact Qq q r
  rintro _ ⟨mode,b,rfl,x,p⟩;obtain⟨rfl,F⟩:=p j a a.1;obtain rfl:=F.2 i;refine uR ?_;refine cZ rfl ?_;refine bE (λxs=>∃(e:Int)(k c:Int)(dd:Bool)(t:List Nat),xs=[.i e,.i k,.i c,.b dd,.r (t.map b1)]/\y=pM e k c dd t) ?_ ?_
  .refine uR ?_;refine bG rfl (λv=>?_) λv=>?_
   .rw[bF v]at g;refine bu C rfl rfl ?_;refine nW ?_;exact a7 ⟨K,L,cl,M,N,rfl,g⟩
   .rw[bO v]at g
    cases s with
    |true=>exact bu u rfl rfl (nW (a7 ⟨0,kr,O,dr,tr,rfl,g⟩))
    |false=>exact bu u rfl rfl (nW (a7 ⟨11,0,0,false,[],rfl,g⟩))
  .rintro _ ⟨e,k,c,dd,t,rfl,g⟩;refine uR ?_;refine bG rfl (λo=>?_) λo=>?_
   .rw[g,pM,bO o];refine uR ?_;exact a7 rfl
   .rw[g,pM,bF (eM.1 o)];refine uR ?_;exact a7 rfl
def Wy(V:Prop)(ee left a:Int):Prop:=(¬V/\a=1)\/(V/\ee≠0/\ee≠1/\a=12)\/(V/\ee=1/\left=0/\a=13)\/(V/\a=0/\(ee=0\/(ee=1/\left≠0)))
def arh:a8:=match Oq with
 |.join a _=>a
 |x=>x
theorem IF{d:Dk}{id limit ro gens}(f:∀g∈gens,WM g.map)(i:gens.length<=1000000)(r:Rs){a}(h:Wy (kK id limit gens) r.ee d.left a){Q}:
 arh.wp [.i d.cap,.i d.left,.r (d.files.map ch),.i id,.i limit,ro,.r (gens.map da),.i r.key,.i r.cookie,.i r.ee,.i r.gen,.i r.mode,.i r.rev,.i r.x.key,.i r.x.cookie,.i r.x.off,.i r.x.size,.i r.tries] (jQ (λxs=>xs=[.i a]) Q):=by
 obtain⟨v,e⟩:=dC (kK id limit gens);refine bu (WK f i e) rfl rfl ?_;refine uR ?_;refine tU rfl e (λb=>a7 ?_) λb=>?_
 .obtain rfl:a=1:=by rcases h with⟨_,h⟩| ⟨h,_⟩| ⟨h,_⟩| ⟨h,_⟩<;>first|exact h|exact absurd h b
  rfl
 have h:¬(r.ee≠0/\r.ee≠1/\a≠12)/\¬(r.ee=1/\d.left=0/\a≠13)/\¬((r.ee=0\/(r.ee=1/\d.left≠0))/\a≠0):=by
  rcases h with⟨h,_⟩| ⟨_,h⟩| ⟨_,h⟩| ⟨_,h⟩
  .exact absurd b h
  all_goals omega
 refine bE (cI (r.ee≠0/\r.ee≠1)) cB ?_;rintro _ ⟨t,rfl,c⟩;refine nW ?_;refine ik rfl c (λj=>a7 ?_) λj=>?_
 .obtain rfl:a=12:=om;rfl
 refine bE (cI (r.ee=1/\d.left=0)) cB ?_;rintro _ ⟨t,rfl,c⟩;refine nW ?_;refine ik rfl c (λk=>a7 ?_) λk=>a7 ?_
 .obtain rfl:a=13:=om;rfl
 .obtain rfl:a=0:=om;rfl
theorem auT{id limit ro gens}(e:∀g∈gens,WM g.map)(f:kK id limit gens)(r):∃(q:Rs)(ys:List (Int×Int×Bool×List Nat×Int)),ys.length<=1/\q.key=r.key/\q.cookie=r.cookie/\q.tries=r.tries/\
 Kj [.i r.key,.i r.cookie,.i r.ee,.i r.gen,.i r.mode,.i r.rev,.i r.x.key,.i r.x.cookie,.i r.x.off,.i r.x.size,.i r.tries,.i id,.i limit,ro,.r (gens.map da)]=some [.i q.ee,.i q.gen,.i q.mode,.i q.rev,.i q.x.key,.i q.x.cookie,.i q.x.off,.i q.x.size,.r (ys.map kf)]/\
 ((∃g x,iU gens r.key gens.length=some (g,x)/\x.cookie=r.cookie/\q=⟨r.key,r.cookie,1,g.num,g.mode,g.rev,x,r.tries⟩/\ys=[])\/((∀g x,iU gens r.key gens.length=some (g,x)->x.cookie≠r.cookie)/\q=r/\ys=[(0,0,false,[],6)])):=by
 have a:=adE (ro:=ro) e f r.key;by_cases hit:∃g x,iU gens r.key gens.length=some (g,x)/\x.cookie=r.cookie
 .obtain⟨g,x,b,d⟩:=hit;rw[b]at a;refine⟨⟨r.key,r.cookie,1,g.num,g.mode,g.rev,x,r.tries⟩,[],gk _,rfl,rfl,rfl,bN ?_,.inl ⟨g,x,b,d,rfl,rfl⟩⟩;refine bu a rfl rfl ?_;refine nW ?_;refine bE (λxs=>xs=[.b false]) ?_ ?_
  .refine uR ?_;refine cZ rfl ?_;refine uR ?_;exact a7 (dF λh=>h d)
  rintro _ rfl;refine nW ?_;refine cZ rfl ?_;exact a7 rfl
 .have c:∀g x,iU gens r.key gens.length=some (g,x)->x.cookie≠r.cookie:=λg x i j=>hit ⟨g,x,i,j⟩
  refine⟨r,[(0,0,false,[],6)],dx _,rfl,rfl,rfl,bN ?_,.inr ⟨c,rfl,rfl⟩⟩
  cases b:iU gens r.key gens.length with
  |none=>
   rw[b]at a;refine bu a rfl rfl ?_;refine nW ?_;refine bE (λxs=>xs=[.b true]) ?_ ?_
   .refine uR ?_;refine eL rfl ?_;exact a7 rfl
   rintro _ rfl;refine nW ?_;refine eL rfl ?_;refine uR ?_;exact a7 rfl
  |some p=>
   rw[b]at a;refine bu a rfl rfl ?_;refine nW ?_;refine bE (λxs=>xs=[.b true]) ?_ ?_
   .refine uR ?_;refine cZ rfl ?_;refine uR ?_;exact a7 (dT (c p.1 p.2 b))
   rintro _ rfl;refine nW ?_;refine eL rfl ?_;refine uR ?_;exact a7 rfl
theorem step_eq{d}(u:nt d){id limit ro}{gens:List Gn}(c:∀g∈gens,WM g.map)(i:gens.length<=1000000)(r:Rs):∃(e:Int)(q:Rs)(ys:List (Int×Int×Bool×List Nat×Int)),ys.length<=1/\
 CJ [.i d.cap,.i d.left,.r (d.files.map ch),.i id,.i limit,ro,.r (gens.map da),.i r.key,.i r.cookie,.i r.ee,.i r.gen,.i r.mode,.i r.rev,.i r.x.key,.i r.x.cookie,.i r.x.off,.i r.x.size,.i r.tries]=some [.i e,.i q.key,.i q.cookie,.i q.ee,.i q.gen,.i q.mode,.i q.rev,.i q.x.key,.i q.x.cookie,.i q.x.off,.i q.x.size,.i q.tries,.r (ys.map kf)]/\
 H2 [.i d.cap,.i d.left,.r (d.files.map ch),.i id,.i limit,ro,.r (gens.map da),.i r.key,.i r.cookie,.i r.ee,.i r.gen,.i r.mode,.i r.rev,.i r.x.key,.i r.x.cookie,.i r.x.off,.i r.x.size,.i r.tries]=some [.i e,.i q.key,.i q.cookie,.i q.ee,.i q.gen,.i q.mode,.i q.rev,.i q.x.key,.i q.x.cookie,.i q.x.off,.i q.x.size,.i q.tries,.r (ys.map kf)]:=by
 have bad:∀b:Int,b≠0->Wy (kK id limit gens) r.ee d.left b->CJ [.i d.cap,.i d.left,.r (d.files.map ch),.i id,.i limit,ro,.r (gens.map da),.i r.key,.i r.cookie,.i r.ee,.i r.gen,.i r.mode,.i r.rev,.i r.x.key,.i r.x.cookie,.i r.x.off,.i r.x.size,.i r.tries]=some [.i b,.i 0,.i 0,.i 0,.i 0,.i 0,.i 0,.i 0,.i 0,.i 0,.i 0,.i 0,.r []]:=λb f h=>by
  refine bN ?_;refine bE (λxs=>xs=[.i b]) (IF c i r h) ?_;rintro _ rfl;refine uR ?_;refine fD rfl f ?_;exact a7 rfl
 by_cases a:kK id limit gens;rotate_left
 .refine⟨1,⟨0,0,0,0,0,0,⟨0,0,0,0⟩,0⟩,[],gk _,bad 1 dc (.inl ⟨a,rfl⟩),bN ?_⟩;refine bu (uc c i (zC a)) rfl rfl ?_;refine uR ?_;refine eL rfl ?_;exact a7 rfl
 by_cases f:r.ee=0
 .obtain ⟨q,ys,o,q1,q2,q3,s,j⟩:=auT (ro:=ro) c a r;refine⟨0,q,ys,o,?_,?_⟩
  .refine bN ?_;refine bE (λxs=>xs=[.i 0]) (IF c i r (.inr (.inr (.inr ⟨a,rfl,.inl f⟩)))) ?_;rintro _ rfl;refine uR ?_;refine db rfl dc ?_;refine bE (λxs=>xs=[.i q.ee,.i q.gen,.i q.mode,.i q.rev,.i q.x.key,.i q.x.cookie,.i q.x.off,.i q.x.size,.i r.tries,.r (ys.map kf)]) ?_ ?_
   .refine uR ?_;refine fD rfl f ?_;refine bu s rfl rfl ?_;refine nW ?_;exact a7 rfl
   rintro _ rfl;refine nW ?_;refine a7 ?_;rw[q1,q2,q3];rfl
  .have k:=Y' (ro:=ro) c a r.key;refine bN ?_;refine bu (uc c i (ng a)) rfl rfl ?_;refine uR ?_;refine cZ rfl ?_;refine uR ?_;refine fD rfl f ?_;rcases j with⟨g,x,m,v,rfl,rfl⟩| ⟨t,rfl,rfl⟩
   .rw[m]at k;refine bu k rfl rfl ?_;refine nW ?_;refine bE (λxs=>xs=[.b false]) ?_ ?_
    .refine uR ?_;refine cZ rfl ?_;refine uR ?_;exact a7 (dF λh=>h v)
    rintro _ rfl;refine nW ?_;refine cZ rfl ?_;exact a7 rfl
   .cases m:iU gens q.key gens.length with
    |none=>
     rw[m]at k;refine bu k rfl rfl ?_;refine nW ?_;refine bE (λxs=>xs=[.b true]) ?_ ?_
     .refine uR ?_;refine eL rfl ?_;exact a7 rfl
     rintro _ rfl;refine nW ?_;refine eL rfl ?_;refine uR ?_;exact a7 rfl
    |some p=>
     rw[m]at k;refine bu k rfl rfl ?_;refine nW ?_;refine bE (λxs=>xs=[.b true]) ?_ ?_
     .refine uR ?_;refine cZ rfl ?_;refine uR ?_;exact a7 (dT (t p.1 p.2 m))
     rintro _ rfl;refine nW ?_;refine eL rfl ?_;refine uR ?_;exact a7 rfl
 by_cases l:r.ee=1;rotate_left
 .refine⟨12,⟨0,0,0,0,0,0,⟨0,0,0,0⟩,0⟩,[],gk _,bad 12 dc (.inr (.inl ⟨a,f,l,rfl⟩)),bN ?_⟩;refine bu (uc c i (ng a)) rfl rfl ?_;refine uR ?_;refine cZ rfl ?_;refine uR ?_;refine db rfl f ?_;refine uR ?_;refine db rfl l ?_;exact a7 rfl
 by_cases n:d.left=0
 .refine⟨13,⟨0,0,0,0,0,0,⟨0,0,0,0⟩,0⟩,[],gk _,bad 13 dc (.inr (.inr (.inl ⟨a,l,n,rfl⟩))),bN ?_⟩;refine bu (uc c i (ng a)) rfl rfl ?_;refine uR ?_;refine cZ rfl ?_;refine uR ?_;refine db rfl f ?_;refine uR ?_;refine fD rfl l ?_;refine uR ?_;refine fD rfl n ?_;exact a7 rfl
 obtain⟨ee,tries,ys,o,s,hR⟩:=ass u (ro:=ro) a r;refine⟨0,⟨r.key,r.cookie,ee,r.gen,r.mode,r.rev,r.x,tries⟩,ys,o,?_,?_⟩
 .refine bN ?_;refine bE (λxs=>xs=[.i 0]) (IF c i r (.inr (.inr (.inr ⟨a,rfl,.inr ⟨l,n⟩⟩)))) ?_;rintro _ rfl;refine uR ?_;refine db rfl dc ?_;refine bE (λxs=>xs=[.i ee,.i r.gen,.i r.mode,.i r.rev,.i r.x.key,.i r.x.cookie,.i r.x.off,.i r.x.size,.i tries,.r (ys.map kf)]) ?_ ?_
  .refine uR ?_;refine db rfl f ?_;refine bu s rfl rfl ?_;refine nW ?_;exact a7 rfl
  rintro _ rfl;refine nW ?_;exact a7 rfl
 .refine bN ?_;refine bu (uc c i (ng a)) rfl rfl ?_;refine uR ?_;refine cZ rfl ?_;refine uR ?_;refine db rfl f ?_;refine uR ?_;refine fD rfl l ?_;refine uR ?_;refine db rfl n ?_;refine bu hR rfl rfl ?_;refine nW ?_;exact a7 rfl
theorem apg(l:List Fl):cf 3 (l.map ch)=true:=by
 unfold cf;rw[cj];intro x a;obtain⟨y,_,rfl⟩:=eV.1 a;rfl
theorem awp(l:List Wr):cf 3 (l.map eX)=true:=by
 unfold cf;rw[cj];intro x a;obtain⟨y,_,rfl⟩:=eV.1 a;rfl
def Tr(f:Fl):Prop:=fl f.base/\f.base.length<=4294967296/\f.bT.length<=4294967296/\f.name.size<=4611686018427387904/\∀w∈f.bT,fl w.data/\w.data.length<=4294967296
theorem zD{d}:nt d↔d.files.length<=4294967296/\∀f∈d.files,Tr f:=by
 constructor
 .rintro⟨⟨e,b⟩,g⟩;exact⟨e,λf a=>⟨(g f a).1,(b f a).1.2.1,(b f a).1.2.2.1,(b f a).2,λw c=>⟨(g f a).2 w c,((b f a).1.2.2.2 w c).2⟩⟩⟩
 .rintro⟨e,b⟩;exact⟨⟨e,λf a=>⟨⟨(b f a).1.T1,(b f a).2.1,(b f a).2.2.1,λw c=>⟨((b f a).2.2.2.2 w c).1.T1,((b f a).2.2.2.2 w c).2⟩⟩,(b f a).2.2.2.1⟩⟩,λf a=>⟨(b f a).1,λw c=>((b f a).2.2.2.2 w c).1⟩⟩
theorem auU{d}(hd:nt d):Kf [.i d.cap,.i d.left,.r (d.files.map ch)]=some [.r (d.files.map ch)]:=by
 obtain⟨hl,hg⟩:=zD.1 hd;refine bN ?_;refine bE (λxs=>xs=[.r (d.files.map ch)]) ?_ ?_;rotate_left
 .rintro _ rfl;refine nW ?_;exact a7 rfl
 refine uR ?_;refine wp_loop (I:=λx=>∃i:Nat,x=[.i i,.r ((d.files.take i).map ch)]/\i<=d.files.length) (mu:=λx=>match x with|[.i i,_]=>d.files.length-i.toNat|_=>0) ⟨0,rfl,om⟩ ?_;rintro x ⟨i,rfl,e1⟩;refine uR ?_;refine bG rfl (λhc=>?_) (λhc=>?_);rotate_left
 .rw[bC]at hc;refine a7 ?_;show[L.r ((d.files.take i).map ch)]=_;rw[gX om]
 rw[bC]at hc;have hi:i<d.files.length:=om;have jd:=hg _ (cT hi);refine bU (f:=ch) (j:=i) rfl rfl hi rfl (uR ?_);obtain⟨f,hf⟩:∃f,d.files[i]=f:=⟨_,rfl⟩
 rw[hf]at jd⊢;have hpl:f.bT.length<=4294967296:=jd.2.2.1;refine bE (λxs=>xs=[.r (f.bT.map eX)]) ?_ ?_
 .refine Cr (nW ?_);refine wp_loop (I:=λx=>∃k:Nat,x=[.i k,.r ((f.bT.take k).map eX)]/\k<=f.bT.length) (mu:=λx=>match x with|[.i i,_]=>f.bT.length-i.toNat|_=>0) ⟨0,rfl,om⟩ ?_;rintro x ⟨k,rfl,e2⟩;refine uR ?_;refine bG rfl (λhc=>?_) (λhc=>?_);rotate_left
  .rw[bC]at hc;refine a7 ?_;show[L.r ((f.bT.take k).map eX)]=_;rw[gX om]
  rw[bC]at hc;have hk:k<f.bT.length:=om;refine bU (f:=eX) (j:=k) rfl rfl hk rfl (uR ?_);refine fa (r:=(f.bT.take (k+1)).map eX) (awp _) rfl oO oO dc (by rw[gW hk,eB];rfl) (nW ?_);refine cm (i:=k) rfl om (nW ?_);refine a7 ⟨⟨k+1,rfl,om⟩,?_⟩;show f.bT.length- ((k+1:Nat):Int).toNat<f.bT.length-k;omega
 rintro _ rfl;refine uR ?_;refine fa (r:=(d.files.take (i+1)).map ch) (apg _) rfl oO oO dc (by rw[gW hi,eB,hf];rfl) (nW ?_);refine cm (i:=i) rfl om (nW ?_);refine a7 ⟨⟨i+1,rfl,om⟩,?_⟩;show d.files.length- ((i+1:Nat):Int).toNat<d.files.length-i;omega
theorem avh(a b c)(n):∃m,Jy [a,b,c,.i n]=some [.i m]:=by
 refine⟨max (-1) n,bN ?_⟩;refine ID (n:=max (-1) n) rfl (nW ?_);exact a7 rfl
theorem lJ(key cookie)(a)(b:List Nat):N3 [.i key,.i cookie,.b a,.r (b.map b1),.i key,.i cookie,.b a,.r (b.map b1)]=some [.b true]:=by
 refine bN ?_;refine bE (λxs=>xs=[.b true]) ?_ ?_
 .refine uR ?_;refine fD rfl rfl (uR ?_);refine fD rfl rfl (uR ?_);refine eL (by cases a<;>rfl) ?_;refine oI rfl (nW ?_);refine oI rfl (nW ?_);refine ot (l:=.b true) (by
   show some (L.b ((mm b).toList==(mm b).toList))=_;rw[show((mm b).toList==(mm b).toList)=true from beq_self_eq_true _]) ?_
  refine nW ?_;exact a7 rfl
 rintro _ rfl;refine nW ?_;exact a7 rfl
theorem ajM(a b){fs:List Fl}(hl:fs.length<=9223372036854775807)(hp:∀f∈fs,f.bT.length<=9223372036854775807):∃t,Hv [a,b,.r (fs.map ch)]=some [.b t]/\(t=true->fs.length<=12/\∀f∈fs,f.base.length<=500/\f.bT.length<=8/\f.name.size<=100/\∀w∈f.bT,w.data.length<=200):=by
 have run:a8.wp Ut [a,b,.r (fs.map ch)] (dX λy=>∃t:Bool,y=[.b t]/\(t=true->fs.length<=12/\∀f∈fs,f.base.length<=500/\f.bT.length<=8/\f.name.size<=100/\∀w∈f.bT,w.data.length<=200)):=by
  refine uR ?_;refine bG rfl (λhc=>?_) (λhc=>?_)
  .exact a7 ⟨false,rfl,λh=>by cases h⟩
  rw[bC]at hc;refine bE (λxs=>xs=[]/\∀f∈fs,f.base.length<=500/\f.bT.length<=8/\f.name.size<=100/\∀w∈f.bT,w.data.length<=200) ?_ ?_;rotate_left
  .rintro _ ⟨rfl,h⟩;refine nW ?_;exact a7 ⟨true,rfl,λ_=>⟨om,h⟩⟩
  refine uR ?_;refine wp_loop (I:=λx=>∃i:Nat,x=[.i i]/\i<=fs.length/\∀f∈fs.take i,f.base.length<=500/\f.bT.length<=8/\f.name.size<=100/\∀w∈f.bT,w.data.length<=200) (mu:=λx=>match x with|[.i i]=>fs.length-i.toNat|_=>0) ⟨0,rfl,om,λf hf=>by simp at hf⟩ ?_;rintro x ⟨i,rfl,e1,e2⟩;refine uR ?_;refine bG rfl (λhx=>?_) (λhx=>?_);rotate_left
  .rw[bC]at hx;refine a7 ⟨rfl,?_⟩
   rwa [gX om]at e2
  rw[bC]at hx;have hi:i<fs.length:=om;refine bE (λxs=>xs=[]/\fs[i].base.length<=500/\fs[i].bT.length<=8/\fs[i].name.size<=100/\∀w∈fs[i].bT,w.data.length<=200) ?_ ?_;rotate_left
  .rintro _ ⟨rfl,h⟩;refine nW ?_;refine cm (i:=i) rfl om (nW ?_);refine a7 ⟨⟨i+1,rfl,om,λf hf=>?_⟩,?_⟩
   .rw[gW hi]at hf;rcases fo.1 hf with hf|hf
    .exact e2 f hf
    .rw[fO.1 hf];exact h
   .show fs.length- ((i+1:Nat):Int).toNat<fs.length-i;omega
  obtain⟨f,hf⟩:∃f,fs[i]=f:=⟨_,rfl⟩
  have xy:=hp _ (cT hi);have jc:(fs.map ch)[i]?=some (ch f):=by rw[cN,cW hi,hf];rfl
  rw[hf]at xy⊢;refine wP (r:=ch f) (show(0:Int)<=(i:Int)by omega) jc rfl (uR ?_);refine bE (cI (500<f.base.length\/8<f.bT.length\/100<f.name.size)) ?_ ?_
  .refine uR ?_;refine bG rfl (λc1=>?_) (λc1=>?_)
   .exact a7 (cC (.inl om))
   refine uR ?_;refine bG rfl (λc2=>?_) (λc2=>?_)
   .rw[bC]at c2;exact a7 (cC (.inr (.inl om)))
   rw[bC]at c2;refine AQ (uR ?_);refine a7 (d' ?_);omega
  rintro _ ⟨t,rfl,ht⟩;refine nW ?_;refine bZ (λhy=>?_) (λhy=>?_)
  .exact a7 ⟨false,rfl,λh=>by cases h⟩
  have hnt:¬(500<f.base.length\/8<f.bT.length\/100<f.name.size):=λh=>by rw[ht.2 h]at hy;cases hy
  refine uR ?_;refine wp_loop (I:=λx=>∃k:Nat,x=[.i k]/\k<=f.bT.length/\∀w∈f.bT.take k,w.data.length<=200) (mu:=λx=>match x with|[.i i]=>f.bT.length-i.toNat|_=>0) ⟨0,rfl,om,λw hw=>by simp at hw⟩ ?_;rintro x ⟨k,rfl,f1,f2⟩;refine uR ?_;refine bG rfl (λhz=>?_) (λhz=>?_);rotate_left
  .rw[bC]at hz;refine a7 ⟨rfl,om,om,om,?_⟩
   rwa [gX om]at f2
  rw[bC]at hz;have hk:k<f.bT.length:=om;refine bU (f:=eX) (j:=k) rfl rfl hk rfl (uR ?_);refine bE (cI (200<f.bT[k].data.length\/(2000<f.bT[k].off/\f.bT[k].off<=1048576))) ?_ ?_
  .refine uR ?_;refine bG rfl (λc1=>?_) (λc1=>?_)
   .exact a7 (cC (.inl om))
   refine uR ?_;refine bG rfl (λc2=>?_) (λc2=>?_)
   .refine uR ?_;refine a7 (d' ?_);omega
   .exact a7 (d_ om)
  rintro _ ⟨u,rfl,hu⟩;refine nW ?_;refine bZ (λhy=>?_) (λhy=>?_)
  .exact a7 ⟨false,rfl,λh=>by cases h⟩
  have hnu:¬(200<f.bT[k].data.length\/(2000<f.bT[k].off/\f.bT[k].off<=1048576)):=λh=>by rw[hu.2 h]at hy;cases hy
  refine cm (i:=k) rfl om (nW ?_);refine a7 ⟨⟨k+1,rfl,om,λw hw=>?_⟩,?_⟩
  .rw[gW hk]at hw;rcases fo.1 hw with hw|hw
   .exact f2 w hw
   .rw[fO.1 hw];omega
  .show f.bT.length- ((k+1:Nat):Int).toNat<f.bT.length-k;omega
 obtain⟨o,h1,t,rfl,h2⟩:=gi run;exact⟨t,h1,h2⟩
end
end
end Go.Proofs.YtndegphojkiblaaGreatDoor
