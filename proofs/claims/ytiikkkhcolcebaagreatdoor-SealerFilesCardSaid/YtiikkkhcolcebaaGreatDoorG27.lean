/- A part. -/
import Derived.Test.YtiikkkhcolcebaaGreatDoorG6
import Derived.Test.YtiikkkhcolcebaaGreatDoorG13
import Derived.Test.YtiikkkhcolcebaaGreatDoorG14
import Derived.Test.YtiikkkhcolcebaaGreatDoorG15
import Derived.Test.YtiikkkhcolcebaaGreatDoorG16
import Derived.Test.YtiikkkhcolcebaaGreatDoorG18
import Derived.Test.YtiikkkhcolcebaaGreatDoorG21
import Derived.Test.YtiikkkhcolcebaaGreatDoorG25
import Derived.Test.YtiikkkhcolcebaaGreatDoorG26
set_option linter.all false
set_option maxHeartbeats 4000000
set_option maxRecDepth 100000
namespace Go.Proofs.YtiikkkhcolcebaaGreatDoor
noncomputable section
section
open Go.RowKit Pl AI
attribute [local irreducible] bp.wp
def ajC(b:List Nat)(c:b.length<=1048576):Ag [.r (b.map b1)]=some [.r ((jM b).map fR)]:=Sn b c
def fm:List Nat:=[27,28,18,20,28,27,20,18]
def aaH:uz [.i 6,.i 4,.r (yQ.map b1),.r [[.sc (.int .i64 4)],[.sc (.int .i64 5)]]]=some [.i 0,.i 2,.i 4,.r (fm.map b1)]:=VB _ _ (tF kr)
def Uc:nE [.i 2,.i 4,.r (fm.map b1)]=some [.b true]:=BG _ _ kr
def auK:fm.all (λc=>Nat.blt c 256&& (Nat.beq c 0||Dt c))=true:=kr
def Uq{c:Nat}(h:c∈fm):c<256/\(c=0\/Dt c=true):=by
 have:=cI.1 auK c h;rw[cF,pZ]at this;exact⟨xY this.1,this.2.imp um id⟩
theorem Wy(ds:List (List Nat))(m:Nat):(l_ ds m).drop 4=kR fm ds m 2:=rfl
def akP{ds}(h4:ds.length=4){m}(hm:m<=4294967296)(hd:ma ds m):Px [.i 2,.i 4,.r (fm.map b1),.r (ds.map fR)]=some [.i 0,.r ((kR fm ds m 2).map fR)]:=by
 refine bJ ?_;refine dC [.b false] ?_ ?_
 .refine bR Uc ?_;refine cu (uR ?_);refine bm ?_;exact dF (by rw[bA,h4];decide)
 refine cu ?_;have fS:=hd.at (show 0<ds.length by omega);refine dC [] ?_ ?_
 .refine uR ?_;refine wp_loop (I:=λx=>∃i:Nat,x=[.i i]/\i<=4) (mu:=cN 4) ⟨0,rfl,om⟩ ?_;rintro x ⟨i,rfl,e1⟩;refine cz (λhx=>?_) (λhx=>?_);rotate_left
  .exact bm rfl
  rw[bA,h4]at hx;have hi:i<ds.length:=om;refine eR fR i hi ?_;refine ya fR i hi ?_;refine dV (f:=fR) (j:=0) rfl rfl (show 0<ds.length by omega) rfl (nW ?_);refine ya fR 0 (l:=ds) (show 0<ds.length by omega) ?_;refine bT rfl (by rw[bA,bA,(hd.at hi).2,fS.2];exactλh=>h rfl) ?_;refine cj i ?_;exact bm ⟨⟨i+1,rfl,om⟩,dy 4 i⟩
 refine tE (r:=(List.replicate 2 ([]:List Nat)).map fR) (by try dsimp only[At.ev,d1,d2,d3,d4,d5,d6,d7,d8,d9,e0,List.map,cZ,Kd.pv];exact⟨dc,dc,dc⟩) rfl (nW ?_);obtain⟨oL,ho⟩:∃oL,kR fm ds m 2=oL:=⟨_,rfl⟩
 have kn:oL.length=2:=by rw[<-ho,sY]
 have sx:∀i(h:i<oL.length),oL[i]=ox fm ds m i:=by subst ho;exactλi h=>Mr h
 rw[ho];refine bO (λxs=>xs=[.r (oL.map fR)]) ?_ ?_;rotate_left
 .rintro _ rfl;refine nW ?_;exact bm rfl
 refine uR ?_;refine wp_loop (I:=λx=>∃i:Nat,x=[.i i,.r ((lO [] oL 2 i).map fR)]/\i<=2) (mu:=cN 2) ⟨0,rfl,om⟩ ?_;rintro x ⟨i,rfl,e1⟩;have wW:=X1 (d:=([]:List Nat)) kn e1;refine cz (λhx=>?_) (λhx=>?_);rotate_left
 .have hx:¬(i:Int)<2:=hx;obtain rfl:i=2:=om;refine bm ?_;show[L.r ((lO [] oL 2 2).map fR)]=_;rw[Q0 kn]
 have hx:(i:Int)<2:=hx;have hi:i<2:=om;have hst:=Zl (d:=([]:List Nat)) kn hi (v:=ox fm ds m i) (sx i om).symm;obtain⟨F,hF⟩:∃F,lO [] oL 2 i=F:=⟨_,rfl⟩
 rw[hF]at wW hst⊢;have hEl:fm.length=8:=rfl;refine dC [.r ((lO [] oL 2 (i+1)).map fR)] ?_ ?_
 .refine dV (f:=fR) (j:=0) rfl rfl (show 0<ds.length by omega) rfl (nW ?_);refine ya fR 0 (l:=ds) (show 0<ds.length by omega) ?_;refine tE (r:=(List.replicate m 0).map b1) (by
   show 0<=(((ds[0].map b1).length:Nat):Int)/\(((ds[0].map b1).length:Nat):Int)<=9223372036854775807/\1*(((ds[0].map b1).length:Nat):Int).toNat<=281474976710656;rw[bA,fS.2];omega) (by
   show List.replicate (((ds[0].map b1).length:Nat):Int).toNat [PV.sc (.int .u8 0)]=_;rw[eO,bA,fS.2,C5];rfl) ?_
  refine nW ?_;refine dV (f:=fR) (j:=i) rfl rfl (show i<F.length by omega) rfl (nW ?_);refine sh (f:=fR) (j:=i) (v:=List.replicate m 0) rfl rfl (show i<F.length by omega) rfl rfl (uR ?_);have hlk:=Bw (c:=λk=>fm.getD (i*4+k) 0) (d:=λk=>ds.getD k []) (m:=m) (n:=4) (λk hk=>by rw[iA om];exact(hd.at om).2);refine wp_loop (I:=λx=>∃k:Nat,x=[.i k,.r ((F.set i (jI (λk=>fm.getD (i*4+k) 0) (λk=>ds.getD k []) (List.replicate m 0) k)).map fR)]/\k<=4) (mu:=cN 4) ⟨0,rfl,om⟩ ?_;rintro x ⟨k,rfl,e2⟩;have ue:=hlk k e2;have dX:jI (λk=>fm.getD (i*4+k) 0) (λk=>ds.getD k []) (List.replicate m 0) (k+1)=l8 (fm.getD (i*4+k) 0) (jI (λk=>fm.getD (i*4+k) 0) (λk=>ds.getD k []) (List.replicate m 0) k) (ds.getD k []):=rfl;refine cz (λhy=>?_) (λhy=>?_);rotate_left
  .rw[bA,h4]at hy;obtain rfl:k=4:=om;refine bm ?_;show[L.r ((F.set i (ox fm ds m i)).map fR)]=_;rw[hst]
  rw[bA,h4]at hy;have hk:k<ds.length:=om;have wL:=hd.at hk;obtain⟨u,hu⟩:∃u,jI (λk=>fm.getD (i*4+k) 0) (λk=>ds.getD k []) (List.replicate m 0) k=u:=⟨_,rfl⟩
  obtain⟨v,hv⟩:∃v,jI (λk=>fm.getD (i*4+k) 0) (λk=>ds.getD k []) (List.replicate m 0) (k+1)=v:=⟨_,rfl⟩
  rw[hu,hv,iA hk]at dX;rw[hu]at ue⊢;have iO:(F.set i u).length=2:=by rw[lN];exact wW
  have hat:(F.set i u)[i]'om=u:=IL _;refine eR fR k hk ?_;refine dP fR k hk ?_;refine dV (f:=fR) (j:=i) rfl rfl (show i< (F.set i u).length by omega) rfl (nW ?_);refine gy (f:=fR) (j:=i) rfl rfl (show i< (F.set i u).length by omega) rfl rfl ?_;rw[hat];refine nW ?_;have n9:i*4+k<fm.length:=om;refine bz (Wq om om n9) ?_;have CQ:=Uq (cV n9);refine bz (Tc (c:=fm.getD (i*4+k) 0) (by rw[iA n9];exact CQ.1) (by rw[iA n9];exact CQ.2) u ds[k] ue.2 wL.1 om om) ?_;refine dV (f:=fR) (j:=i) rfl rfl (show i< (F.set i u).length by omega) rfl (nW ?_);refine sh (f:=fR) (j:=i) (v:=v) rfl rfl (show i< (F.set i u).length by omega) rfl (by rw[dX];rfl) ?_;rw[List.set_set];refine nW ?_;refine cj k ?_;exact bm ⟨⟨k+1,by rw[hv];rfl,om⟩,dy 4 k⟩
 refine cj i ?_;exact bm ⟨⟨i+1,rfl,om⟩,dy 2 i⟩
def aeh{ds:List (List Nat)}(c:ds.length=4){m}(d:m<=4294967296)(j:ma ds m):IU [.r (ds.map fR)]=some [.i 0,.r (((l_ ds m).drop 4).map fR)]:=by
 refine gp ?_;rw[bA];refine bT rfl (by rw[c];decide) ?_;refine bR Q_ ?_;refine nN (m:=fm) aaH rfl rfl (nW ?_);refine bz (akP c d j) ?_;refine bm ?_;rw[Wy];rfl
def ajq(n:Nat)(c:0<n)(d:n<=1000):MO [.i n]=some [.r ((List.replicate n ([]:List Nat)).map fR)]:=by
 refine bJ ?_;refine dC [] ?_ ?_
 .refine uR ?_;exact bT rfl om (bm rfl)
 refine ew [.r ((List.replicate n ([]:List Nat)).map fR)] ?_;refine nM (n:=(n:Int)) (by show(n:Int) -0=n;omega) om om (uR ?_);refine c9 rfl om ?_;refine lK ⟨by show(0:Int)<=0;omega,by show(0:Int)<=0;omega,fu _,rfl⟩ (nW ?_);refine tE (r:=(List.replicate n ([]:List Nat)).map fR) ⟨by show(0:Int)<=n;omega,by show(n:Int)<=_;omega,by show 24*((n:Int)).toNat<=_;omega⟩ (by rw[C5];rfl) (nW ?_);refine eR fR 0 (l:=List.replicate n ([]:List Nat)) (by rw[qW];omega) ?_;refine eI (r:=(List.replicate n ([]:List Nat)).map fR) rfl (nD _) py (by show((List.replicate n ([]:List Nat)).map fR).length<=_;rw[bA,qW];omega) dc rfl (uR ?_);refine lK ⟨by show(0:Int)<=0;omega,by show(0:Int)<=0;omega,fu _,kQ (nD _)⟩ (nW ?_);exact bm rfl
def anY{ρ Q k}{x ln y:At}{a b c:List (List Nat)}{i:Nat}(j:(x.ev ρ).bE=(a++c).map fR)(l:(ln.ev ρ).br=i)(m:i=a.length)(d:(y.ev ρ).bE=b.map fR)(p:b.length<=c.length)
 (o:k.wp (ρ++[.r ((a++b++c.drop b.length).map fR),.i ((i+b.length:Nat):Int)]) Q):(bp.op (.tQ x ln y 1) k).wp ρ Q:=by
 refine kh (ls:=[.r ((a++b++c.drop b.length).map fR),.i ((i+b.length:Nat):Int)]) ?_ o;simp only[Nd.ev];subst m;rw[bB ⟨by rw[d];exact nD _,by rw[d,l,j,bA,bA,cw,eO];omega⟩,l,d,j,eO];have:((a++c).map fR).take a.length++b.map fR++((a++c).map fR).drop (a.length+(b.map fR).length)=(a++b++c.drop b.length).map fR:=by
  rw[<-mo,<-o2,zQ,bA,Qy,IB om,show a.length+b.length-a.length=b.length by omega,dU,dU,dU];rfl
 rw[this,bA]
def ade(a b:List (List Nat))(ha:0<a.length)(h:a.length+b.length<=1000):K2 [.r [[.sl (a.map fR)],[.sl (b.map fR)]]]=some [.i (a.length+b.length:Nat),.r ((a++b).map fR)]:=by
 obtain⟨g,hg⟩:∃g:List (List Nat)->List PV,g=λx=>[PV.sl (x.map fR)]:=⟨_,rfl⟩
 have wO:∀x,(g x).length=1:=λx=>by rw[hg];rfl
 have e0:[[PV.sl (a.map fR)],[PV.sl (b.map fR)]]=[a,b].map g:=by rw[hg];rfl
 have two:∀{i:Nat}(hi:i<2)(hi':i< [a,b].length),[a,b][i]=a/\i=0\/[a,b][i]=b/\i=1:=λ{i}hi hi'=>by
  match i,hi with
  |0,_=>exact .inl ⟨rfl,rfl⟩
  |1,_=>exact .inr ⟨rfl,rfl⟩
 have rowA:∀{i:Nat}(hi':i< [a,b].length),g [a,b][i]=[.sl ([a,b][i].map fR)]:=λ{i}hi'=>by rw[hg]
 rw[e0];refine bJ ?_;refine dC [.i (a.length+b.length:Nat)] ?_ ?_
 .refine uR ?_;refine wp_loop (I:=λx=>∃i n:Nat,x=[.i n,.i i]/\i<=2/\n=(([a,b].take i).map List.length).sum) (mu:=gX 2) ⟨0,0,rfl,om,rfl⟩ ?_;rintro x ⟨i,n,rfl,e1,e2⟩;refine cz (λhc=>?_) (λhc=>?_);rotate_left
  .have hc:¬(i:Int)<2:=hc;obtain rfl:i=2:=om;refine bm ?_;show[L.i n]=_;rw[e2];simp
  have hc:(i:Int)<2:=hc;have hi:i<2:=om;have hi':i< [a,b].length:=hi;have hs:n+ [a,b][i].length=(([a,b].take (i+1)).map List.length).sum:=by
   rw[fT hi',dU,List.sum_append,<-e2];simp
  have hle:n+ [a,b][i].length<=1000:=by
   rcases two hi hi' with⟨q1,rfl⟩| ⟨q1,rfl⟩
   .rw[q1,e2];simp;omega
   .rw[q1,e2];simp;omega
  refine bO (λxs=>xs=[.i ((n+ [a,b][i].length:Nat):Int)]) ?_ ?_
  .refine dV (f:=g) (l:=[a,b]) (j:=i) rfl rfl hi' (wO _) ?_;rw[rowA hi'];refine uR ?_;rw[bA];refine iU (n:=((n+ [a,b][i].length:Nat):Int)) rfl om om (uR ?_);exact bT rfl om (bm rfl)
  .rintro _ rfl;refine nW ?_;refine cj i ?_;exact bm ⟨⟨i+1,n+ [a,b][i].length,rfl,om,hs⟩,dy 2 i⟩
 refine bz (ajq (a.length+b.length) om h) ?_;refine ew [.i (a.length+b.length:Nat),.r ((a++b).map fR)] ?_;refine uR ?_;refine wp_loop (I:=λx=>∃(i:Nat)(p q:List (List Nat)),x=[.i p.length,.i i,.r ((p++q).map fR)]/\i<=2/\p=([a,b].take i).flatten/\p.length+q.length=a.length+b.length) (mu:=gX 2) ⟨0,[],List.replicate (a.length+b.length) [],rfl,om,rfl,by simp⟩ ?_;rintro x ⟨i,p,q,rfl,e1,e2,e3⟩;refine cz (λhc=>?_) (λhc=>?_);rotate_left
 .have hc:¬(i:Int)<2:=hc;obtain rfl:i=2:=om;have hp:p=a++b:=by rw[e2];simp
  have hq:q=[]:=nu (by rw[hp,cw]at e3;omega);refine bm ?_;show[L.i p.length,L.r ((p++q).map fR)]=_;rw[hp,hq,gd,cw]
 have hc:(i:Int)<2:=hc;have hi:i<2:=om;have hi':i< [a,b].length:=hi;have hs:p++[a,b][i]=([a,b].take (i+1)).flatten:=by
  rw[fT hi',List.flatten_append,<-e2];simp
 have hle:[a,b][i].length<=q.length:=by
  rcases two hi hi' with⟨q1,rfl⟩| ⟨q1,rfl⟩
  .rw[q1];rw[e2]at e3;have:(0:Nat)+q.length=a.length+b.length:=e3;omega
  .rw[q1];rw[e2]at e3;have:([a].flatten).length+q.length=a.length+b.length:=e3;rw[show[a].flatten=a by simp]at this;omega
 refine dV (f:=g) (l:=[a,b]) (j:=i) rfl rfl hi' (wO _) ?_;rw[rowA hi'];refine uR ?_;refine anY (a:=p) (b:=[a,b][i]) (c:=q) (i:=p.length) rfl rfl rfl rfl hle (nW ?_);refine cj i ?_;refine bm ⟨⟨i+1,p++[a,b][i],q.drop [a,b][i].length,?_,om,hs,?_⟩,?_⟩
 .rw[cw];rfl
 .rw[cw,jE];omega
 .show 2- ((i+1:Nat):Int).toNat<2-i;omega
def ati{b:List Nat}(hb:B8 b){a g r:Int}{l:List It}(hH:jV a g r b.length l)(hl:l.length<=1000):K8 [.r (b.map b1),.i a,.i g,.i r,.r (l.map bu)]=some ([.i 0,.r ((dO b).map fR),.i a,.i g,.i r,.i b.length]++cA (ep b)++[.r (l.map bu)]):=by
 have qS:=hH.2.1;have CN:=hH.2.2.1;have aFE:Sp.cU b.length<=1048576:=by unfold Sp.cU;omega
 have h6:=oo b;have hpl:((l_ (jM b) (Sp.cU b.length)).drop 4).length=2:=by rw[jE];show(kR _ _ _ _).length-4=2;rw[sY]
 have hcc:=ade (jM b) ((l_ (jM b) (Sp.cU b.length)).drop 4) (by rw[pJ];omega) (by rw[pJ,hpl];omega);rw[pJ,hpl,show jM b++(l_ (jM b) (Sp.cU b.length)).drop 4=dO b from rfl]at hcc;refine gp ?_;rw[bA];refine bz (Jx l hl) ?_;refine bR (Ev a g r b.length (.i 0) (.i 0) (.i 0) (.i 0) (.i 0) (.i 0) l om (kx hH)) ?_;refine cu ?_;refine bz (ajC b om) ?_;refine bR (aeh (pJ b) om (Co hb)) ?_;refine bz hcc ?_;refine bO (λxs=>xs=cA (ep b)) ?_ ?_;rotate_left
 .rintro _ rfl;refine uR ?_;refine bm ?_;show[L.i 0,L.r (((dO b).map fR).take 6),_,_,_,_,_,_,_,_,_,_,_]=_;rw[eP (by rw[bA,h6];omega)];rfl
 refine vU (f:=fR) (l:=dO b) (c:=6) rfl rfl rfl ?_;rw[eP om];refine uR ?_;rw[bA];refine wp_loop (I:=λy=>∃i:Nat,y=.i i::cA (Gl (ep b) i)/\i<=6) (mu:=cN 6) ⟨0,rfl,om⟩ ?_;rintro y ⟨i,rfl,e1⟩;refine cz (λhx=>?_) (λhx=>?_);rotate_left
 .obtain rfl:i=6:=om;exact bm rfl
 have hi:i< (dO b).length:=om;have hll:=(BC hb).at hi;refine bO (λxs=>xs=.i i::cA (Gl (ep b) (i+1))) ?_ ?_;rotate_left
 .rintro _ rfl;refine nW ?_;refine cj i ?_;exact bm ⟨⟨i+1,rfl,om⟩,dy 6 i⟩
 have hcs:fo (dO b)[i]=ep b i:=by unfold ep;rw[iA hi]
 refine ti (f:=fR) (l:=dO b) (j:=i) (c:=6) rfl rfl rfl rfl hi om rfl (nW ?_);refine dP fR i hi ?_;refine du (Fk (dO b)[i] om) rfl rfl ?_;rw[hcs];refine nW ?_;have P_:i=0\/i=1\/i=2\/i=3\/i=4\/i=5:=om;rcases P_ with rfl|rfl|rfl|rfl|rfl|rfl<;>
  (repeat (first| (refine c9 rfl dc ?_)| (refine bT rfl dc ?_)| (refine sT rfl ?_;try dsimp only[At.ev,d1,d2,d3,d4,d5,d6,d7,d8,d9,e0,List.map,cZ,Kd.pv])))<;>exact bm rfl
end
section
open Go.RowKit Pl
def qq(D:List Nat)(x:It):List Nat:=cQ D (x.off.toNat+20) (x.off.toNat+20+x.size.toNat)
def nS(D:List Nat)(x:It):Nl:=⟨x.key,x.cookie,false,qq D x⟩
structure pj(D:List Nat)(x:It):Prop where
 c0:0<=x.cookie
 c4:x.cookie<=4294967295
 rc:cQ D x.off.toNat (x.off.toNat+cU x.size.toNat)=jT x.key x.cookie false (qq D x)
 ln:(qq D x).length=x.size.toNat
def ZF{D E:List Nat}{a c}(h:c<=D.length):cQ (D++E) a c=cQ D a c:=by
 unfold cQ;rw[aGf h]
def adU{x:It}(h:ff x=true):∃o n:Nat,x.off=o/\x.size=n/\n<=4096/\ends x=((o+cU n:Nat):Int):=by
 have j:=xI h;obtain⟨o,c⟩:∃o:Nat,x.off=o:=⟨x.off.toNat,om⟩
 obtain⟨n,d⟩:∃n:Nat,x.size=n:=⟨x.size.toNat,om⟩
 refine⟨o,n,c,d,om,?_⟩;unfold ends;rw[d,JG om,c];omega
def pj.app{D E x}(h:pj D x)(t:ff x=true)(y:ends x<=D.length):pj (D++E) x/\qq (D++E) x=qq D x:=by
 obtain⟨o,n,z,B,F,G⟩:=adU t;have u:=xQ n;have m:x.off.toNat=o:=om;have q:x.size.toNat=n:=om;have d:qq (D++E) x=qq D x:=by unfold qq;rw[m,q,ZF om]
 refine⟨⟨h.c0,h.c4,?_,by rw[d];exact h.ln⟩,d⟩;rw[d,<-h.rc,ZF (by rw[m,q];omega)]
def pj.new{D:List Nat}{x:Nl}(q:k_ x)(d:x.del=false):pj (D++jT x.key x.cookie x.del x.data) ⟨x.key,x.cookie,D.length,x.data.length⟩/\nS (D++jT x.key x.cookie x.del x.data) ⟨x.key,x.cookie,D.length,x.data.length⟩=x:=by
 have t:=xQ x.data.length;have u:=OC x.key x.cookie x.del x.data;have m:qq (D++jT x.key x.cookie x.del x.data) ⟨x.key,x.cookie,D.length,x.data.length⟩=x.data:=by
  unfold qq;refine gK (p:=D++([78,165,cond x.del 1 0,0]++num x.cookie 4++num x.key 8++num x.data.length 4)) (r:=d_ (sM x.key x.cookie x.del x.data)++List.replicate (cU x.data.length- (x.data.length+24)) 0) ?_ ?_ ?_
  .simp[jT,fl,sM]
  .simp[dk]
  .rfl
 refine⟨⟨q.c0,q.c4,?_,by rw[m];rfl⟩,?_⟩
 .rw[m];refine gK (p:=D) (r:=[]) ?_ rfl ?_
  .rw[gd,d]
  .show(D.length:Int).toNat+_=(D.length:Int).toNat+cU (x.data.length:Int).toNat;rw[<-d,u];rfl
 .unfold nS;rw[m];cases x;cases d;rfl
structure Sld(f:Fs)(i:Nat)(D:List Nat)(l its:List It):Prop where
 h:jV 1 ((i+1:Nat):Int) 0 D.length its
 e:∀x∈its,pK x
 n:its.length<=8
 m:∀x∈l,x∈its
 x:f (9*i+8)=some (iY 1 ((i+1:Nat):Int) 0 D.length (ep D) its)
 s:∀k,k<6->f (9*i+(2+k))=some ((dO D).getD k [])
structure Inv(f:Fs)(gs:List Ge)(vol:Nat->List Nat)(B:Nat):Prop where
 s:ec gs
 fb:∀j b,f j=some b->B8 b/\b.length<=B
 vb:∀(i:Nat)(h:i<gs.length),B8 (vol i)/\((vol i).length:Int)=gs[i].size/\(vol i).length<=B/\∃r,B8 r/\vol i=il 1 ((i+1:Nat):Int) 0++r
 rc:∀(i:Nat)(h:i<gs.length),∀x∈gs[i].l,pj (vol i) x
 op:∀(i:Nat)(h:i<gs.length),gs[i].mode≠3->f (9*i)=some (vol i)/\∀k,2<=k->k<9->f (9*i+k)=none
 cl:∀(i:Nat)(h:i<gs.length),gs[i].mode=3->∃its,Sld f i (vol i) gs[i].l its
 ft:∀j,9*gs.length<=j->f j=none
def look(gs:List Ge)(i:Nat)(k:Int):Option It:=dB (gs.getD i ⟨0,0,[],0⟩).l k
def mz(gs:List Ge)(k:Int):Nat->Option (Nat×It)
 |0=>none
 |i+1=>match look gs i k with
  |some x=>some (i,x)
  |none=>mz gs k i
def uZ{gs i}(h:i<gs.length)(k):look gs i k=dB gs[i].l k:=by unfold look;rw[iA h]
def No{gs c:List Ge}{k}:∀{n},(∀i,i<n->look gs i k=look c i k)->mz gs k n=mz c k n
 |0,_=>rfl
 |n+1,h=>by
  rw[mz,mz,h n (p0 n),No λi d=>h i om]
def GZ{gs k}:∀{n},(∀i,i<n->look gs i k=none)->mz gs k n=none
 |0,_=>rfl
 |n+1,h=>by rw[mz,h n (p0 n),GZ λi c=>h i om]
def Lh{gs k}:∀{n}{p:Nat×It},mz gs k n=some p->p.1<n/\look gs p.1 k=some p.2
 |0,_,h=>by cases h
 |n+1,p,h=>by
  rw[mz]at h
  cases c:look gs n k with
  |none=>
   rw[c]at h;have:=Lh h;exact⟨om,this.2⟩
  |some x=>
   rw[c]at h;cases h;exact⟨p0 n,c⟩
def has(gs:List Ge)(c:Nat->List Nat)(k:Int):Option Nl:=(mz gs k gs.length).map λp=>nS (c p.1) p.2
def dR(x:Nl):List PV:=.sc (.int .u64 x.key)::x.row
def pc(x:Nl):List Nl->List Nl
 |[]=>[x]
 |y::l=>if x.key=y.key then x::l else y::pc x l
def jR(k:Int):List Nl->List Nl
 |[]=>[]
 |y::l=>if k=y.key then l else y::jR k l
def lq(k:Int):List Nl->Option Nl
 |[]=>none
 |y::l=>if k=y.key then some y else lq k l
theorem UO(z)(y:Nl):iL z (dR y)=(z==y.key):=rfl
def XB(x:Nl):∀l:List Nl,pM x.key x.row (l.map dR)=(pc x l).map dR
 |[]=>rfl
 |y::l=>by
  rw[dE,pM,pc,UO];by_cases h:x.key=y.key
  .rw[bB (by simp[h]),bB h];rfl
  .rw[bG (by simp[h]),bG h,XB x l];rfl
def EO(k:Int):∀l:List Nl,pF k (l.map dR)=(jR k l).map dR
 |[]=>rfl
 |y::l=>by
  rw[dE,pF,jR,UO];by_cases h:k=y.key
  .rw[bB (by simp[h]),bB h]
  .rw[bG (by simp[h]),bG h,EO k l];rfl
def qi(l:List Nl):Prop:=l.Pairwise λa b=>a.key≠b.key
def aaI{x y:Nl}:∀{l:List Nl},y∈pc x l->y=x\/y∈l
 |[],h=>.inl (kY.1 h)
 |z::l,h=>by
  rw[pc]at h;split at h
  .rcases fh.1 h with h|h
   .exact .inl h
   .exact .inr (je _ h)
  .rcases fh.1 h with h|h
   .exact .inr (h▸jg)
   .rcases aaI h with h|h
    .exact .inl h
    .exact .inr (je _ h)
def SI{k}{y:Nl}:∀{l:List Nl},y∈jR k l->y∈l
 |[],h=>h
 |z::l,h=>by
  rw[jR]at h;split at h
  .exact je _ h
  .rcases fh.1 h with h|h
   .exact h▸jg
   .exact je _ (SI h)
def qi.put{x:Nl}:∀{l:List Nl},qi l->qi (pc x l)
 |[],_=>acO _ _
 |y::l,h=>by
  have m:=iE.1 h;rw[pc];split
  .rename_i e;exact iE.2 ⟨λz d=>by rw[e];exact m.1 z d,m.2⟩
  .rename_i e;refine iE.2 ⟨λz d=>?_,qi.put m.2⟩;rcases aaI d with rfl|d
   .exact λq=>e q.symm
   .exact m.1 z d
def qi.del{k}:∀{l:List Nl},qi l->qi (jR k l)
 |[],h=>h
 |y::l,h=>by
  have d:=iE.1 h;rw[jR];split
  .exact d.2
  .exact iE.2 ⟨λz m=>d.1 z (SI m),qi.del d.2⟩
def Td{x:Nl}{k}:∀{l:List Nl},lq k (pc x l)=if k=x.key then some x else lq k l
 |[]=>rfl
 |y::l=>by
  rw[pc];by_cases e:x.key=y.key
  .rw[bB e,lq,lq,e];by_cases h:k=y.key
   .rw[bB h,bB h]
   .rw[bG h,bG h,bG h]
  .rw[bG e,lq,lq,Td (l:=l)];by_cases h:k=y.key
   .rw[bB h,bG om,bB h]
   .rw[bG h,bG h]
def WQ{k}:∀{l:List Nl},(∀y∈l,y.key≠k)->lq k l=none
 |[],_=>rfl
 |y::l,h=>by rw[lq,bG (λe=>h y jg e.symm),WQ λz c=>h z (je _ c)]
def Hd{d k}:∀{l:List Nl},qi l->lq k (jR d l)=if k=d then none else lq k l
 |[],_=>by rw[jR,lq];split<;>rfl
 |y::l,h=>by
  have j:=iE.1 h;rw[jR];by_cases e:d=y.key
  .rw[bB e,lq];by_cases c:k=d
   .rw[bB c];exact WQ λz m o=>j.1 z m om
   .rw[bG c,bG om]
  .rw[bG e,lq,lq,Hd j.2];by_cases c:k=y.key
   .rw[bB c,bG om,bB c]
   .rw[bG c,bG c]
end
section
open Go.RowKit Pl AI
attribute [local irreducible] bp.wp
def Inv.okF{f gs d B}(h:Inv f gs d B)(q:B<=1000000):dG f:=λj b m=>⟨(h.fb j b m).1,by have:=(h.fb j b m).2;omega⟩
def Tq{f gs c B}(h:Inv f gs c B)(j):B8 (gP f j)/\(gP f j).length<=B:=by
 unfold gP
 cases d:f j with
 |none=>exact⟨λx l=>(by cases l),fu _⟩
 |some b=>exact h.fb j b d
def aaU{f}(m:dG f)(gs:List Ge)(data:L){n:Nat}(o:n<8)(c:f (9*n)=none):
 EK (dA (cT f)++sA gs++[data,.i (n+1:Nat)])=some (dA (cT (cq f (9*n) (some (il 1 ((n+1:Nat):Int) 0))))):=by
 have d:gP f (9*n)=[]:=by unfold gP;rw[c]
 have l:=(xh m (j:=9*n) om (x:=il 1 ((n+1:Nat):Int) 0) ⟨vr _ _ _,by rw[qB];omega⟩ (by rw[d];show(il _ _ _).length<=_;rw[qB];omega) (.i 1) (.i 9000) (.b false) (.r (gs.map gR)) data).1;rw[d,kZ]at l;refine bJ ?_;refine bz (axN 1 ((n+1:Nat):Int) 0 om) ?_;refine bz (tz (t:=0) o dc) ?_;refine bz l ?_;exact bm rfl
def nh(gs:List Ge)(x:Nl):List Ge:=gs.set (df gs).n ((df gs).add x)
def tv(f:Fs)(gs:List Ge)(x:Nl):Fs:=cq f (9*(df gs).n) (some (gP f (9*(df gs).n)++jT x.key x.cookie x.del x.data))
def qz(ds:List Nl)(x:Nl):List Nl:=if x.del=true then jR x.key ds else pc x ds
def Ge.Pf(e:Ge)(x):(e.add x).n=e.n/\(e.add x).mode=e.mode:=by
 unfold Ge.add;split<;>exact⟨rfl,rfl⟩
def ec.set{gs}(h:ec gs){e:Ge}(q:fZ e)(y:e.n<gs.length)(t:e.mode=1↔e.n=gs.length-1):ec (gs.set e.n e):=by
 have u:=h.n1;have x:=h.n8;refine⟨by rw[lN];exact u,by rw[lN];exact x,λi d=>?_⟩;rw[lN]at d⊢;by_cases m:e.n=i
 .subst m;rw[IL];exact⟨q,rfl,t⟩
 .rw[IK m];exact h.ok i d
def Yi{gs}(h:ec gs){x}(j:k_ x)(l:(df gs).size+dq x.data.length<=17000):ec (nh gs x):=by
 have d:=mF h;have m:=h.n1;have c:=Ge.Pf (df gs) x;have:=ec.set h (d.1.add j l) (by rw[c.1];omega) (by rw[c.1,c.2,d.2.1,d.2.2];exact⟨λ_=>rfl,λ_=>rfl⟩)
 rwa [c.1]at this
def XH{f}(hf:dG f){gs}(h:ec gs){ds:List Nl}{x}(hx:k_ x)(hs:(df gs).size+dq x.data.length<=17000)(hg:(gP f (9*(df gs).n)).length<=1000000):
 xt (dA (cT f)++sA gs++[.r (ds.map dR),.r [x.row]])=some (.b true::dA (cT (tv f gs x))++sA (nh gs x)++[.r ((qz ds x).map dR)]):=by
 have hl:=mF h;have h1:=h.n1;have ha:=Ge.Pf (df gs) x;have hsz:=xQ x.data.length;have H5:=hx.len;have CP:=OC x.key x.cookie x.del x.data;have hch:=Jc h (e:=(df gs).add x) (by rw[ha.1];omega) (by rw[ha.1];exact Yi h hx hs);rw[ha.1]at hch;have hre:=aix (key:=x.key) (cookie:=x.cookie) (del:=x.del) (data:=x.data) om hx.d hx.k0 hx.c0 hx.c4;have hw:=(xh hf (j:=9*(df gs).n) (by have:=hl.1.n8;omega) (x:=jT x.key x.cookie x.del x.data) ⟨Jb _ _ _ hx.b,om⟩ (by rw[cw];omega) (.i 1) (.i 9000) (.b false) (.r ((nh gs x).map gR)) (.r (ds.map dR))).1;refine bJ ?_;refine bz (Wa h) ?_;refine bz (aqV hl.1 hl.2.2 hx) ?_;refine bz hch ?_;refine dC [.b false] ?_ ?_
 .refine uR ?_;refine bT rfl oO (uR ?_);exact bm rfl
 refine cu ?_;refine bO (λxs=>xs=dA (cT (tv f gs x))++[.r ((qz ds x).map dR)]) ?_ ?_;rotate_left
 .rintro _ rfl;refine nW ?_;exact bm rfl
 refine wp_loop (I:=λa=>a=.i 0::dA (cT f)++[.r (ds.map dR)]\/a=.i 1::dA (cT (tv f gs x))++[.r ((qz ds x).map dR)]) (mu:=cN 1) (.inl rfl) ?_;rintro a (rfl|rfl);rotate_left
 .refine uR ?_;refine bT rfl oO ?_;exact bm rfl
 refine uR ?_;refine c9 rfl oO ?_;refine bO (λxs=>xs=[.i 0,.i (-1),.r ((qz ds x).map dR),.r ((cT (tv f gs x)).map bK)]) ?_ ?_;rotate_left
 .rintro _ rfl;refine nW ?_;refine cj 0 ?_;exact bm ⟨.inr rfl,by show 1- (1:Int).toNat<1- (0:Int).toNat;decide⟩
 refine jy (r:=x.row) oO rfl rfl (uR ?_);refine bz hre ?_;refine bz (tz (n:=(df gs).n) (t:=0) hl.1.n8 dc) ?_;refine bz hw ?_;refine jy (r:=x.row) oO rfl rfl (uR ?_);by_cases hd:x.del=true
 .have ed:qz ds x=jR x.key ds:=bB hd;refine y7 hd ?_;refine jy (r:=x.row) oO rfl rfl (uR ?_);refine bz (l:=[.r ((qz ds x).map dR)]) (by rw[ed,<-EO];rfl) ?_;exact bm rfl
 .have ed:qz ds x=pc x ds:=bG hd;refine qo (by show x.del=false;simpa using hd) ?_;refine jy (r:=x.row) oO rfl rfl (uR ?_);refine jy (r:=x.row) oO rfl rfl (uR ?_);refine bz (l:=[.r ((qz ds x).map dR)]) (by rw[ed,<-XB];rfl) ?_;exact bm rfl
def DO(f:Fs)(gs:List Ge):Fs:=
 let c:=cq f (9*gs.length) (some (il 1 ((gs.length+1:Nat):Int) 0))
 cq c (9*(gs.length-1)+1) (some (gP c (9*(gs.length-1)+1)))
def awj{f}(B:dG f){gs}(h:ec gs)(u:f (9*gs.length)=none)(data:L):
 BO (dA (cT f)++sA gs++[data])=some (if gs.length<8 then .b true::dA (cT (DO f gs))++sA (fi gs)else .b false::dA (cT f)++sA gs):=by
 have F:=h.n1;by_cases o:gs.length<8
 .rw[bB o];have p:=mF h;obtain⟨D,e⟩:=uV h;obtain⟨d,m⟩:∃d,cq f (9*gs.length) (some (il 1 ((gs.length+1:Nat):Int) 0))=d:=⟨_,rfl⟩
  have c:dG d:=by
   rw[<-m];exact B.cq λy v=>by cases v;exact⟨vr _ _ _,by rw[qB];omega⟩
  have q:=aaU B (fi gs) data o u;rw[m]at q;have z:(gP d (9*(gs.length-1)+1)).length<=1048576:=by
   unfold gP
   cases E:d (9*(gs.length-1)+1)with
   |none=>exact fu _
   |some b=>exact(c _ b E).2
  have C:=(xh c (j:=9*(gs.length-1)+1) om (x:=[]) ⟨λy v=>(by cases v),dc⟩ (by rw[gd];exact z) (.i 1) (.i 9000) (.b false) (.r ((fi gs).map gR)) data).2;rw[gd]at C;have A:DO f gs=cq d (9*(gs.length-1)+1) (some (gP d (9*(gs.length-1)+1))):=by rw[<-m];rfl
  rw[A];refine bJ ?_;refine bR (ayB h o) ?_;refine bT rfl oO (uR ?_);rw[bA];refine eb (((gs.length-1:Nat):Int)) (by show(gs.length:Int) -1=_;omega) ?_;refine dV (f:=gR) (l:=gs) (j:=gs.length-1) rfl rfl D rfl ?_;rw[e];refine uR ?_;refine fg (((gs.length+1:Nat):Int)) (by show(((df gs).n+1:Nat):Int)+1=_;omega) ?_;refine bz q ?_;have r:=tz (n:=gs.length-1) (t:=1) om dc;rw[<-p.2.1]at r;refine du r rfl rfl ?_;rw[p.2.1];refine nW ?_;refine bz C ?_;exact bm rfl
 .rw[bG o];refine bJ ?_;refine bR (awN h o) ?_;refine c9 rfl oO ?_;exact bm rfl
end
section
open Go.RowKit Pl
def ES{gs:List Ge}{i:Nat}{e:Ge}(c:i<gs.length)(h):(gs.set i e)[i]'h=e:=IL _
def yn{gs}(h:ec gs):∃c:(df gs).n<gs.length,gs[(df gs).n]=df gs:=by
 obtain⟨c,e⟩:=uV h;have:=(mF h).2.1;refine⟨om,?_⟩;have d:gs[(df gs).n]?=gs[gs.length-1]?:=by rw[this]
 rw[db om,db c]at d;rw[oc d];exact e
def Inv.top{f gs d B}(h:Inv f gs d B):f (9*(df gs).n)=some (d (df gs).n)/\gP f (9*(df gs).n)=d (df gs).n/\((d (df gs).n).length:Int)=(df gs).size/\(d (df gs).n).length<=B:=by
 obtain⟨q,e⟩:=yn h.s;have t:=(h.op _ q (by rw[e,(mF h.s).2.2];decide)).1;have m:=h.vb _ q;rw[e]at m;exact⟨t,by unfold gP;rw[t],m.2.1,m.2.2.1⟩
def qH(gs:List Ge)(c:Nat->List Nat)(x:Nl):Nat->List Nat:=λi=>if i=(df gs).n then c i++jT x.key x.cookie x.del x.data else c i
def fZ.Pc{e:Ge}(h:fZ e){x}(d:x∈e.l){D:List Nat}(m:(D.length:Int)=e.size):ends x<=D.length:=by rw[m];exact h.en x d
def Inv.add{f gs d B}(h:Inv f gs d B)(hB:B<=16000){x}(H:k_ x):Inv (tv f gs x) (nh gs x) (qH gs d x) (B+56):=by
 obtain⟨O,he⟩:=yn h.s;obtain⟨t1,t2,t3,t4⟩:=h.top;have t:=mF h.s;have aa:=HL H.len;have U:=OC x.key x.cookie x.del x.data;have ab:=xQ x.data.length;have ac:=H.len;have P:dq x.data.length=((cU x.data.length:Nat):Int):=JG om;have Q:(df gs).size+dq x.data.length<=17000:=om;have W:=Yi h.s H Q;have hz:=Ge.Kh t.1.s.v.1 H;have hn:=Ge.Pf (df gs) x;have hlen:(nh gs x).length=gs.length:=lN;have u:tv f gs x=cq f (9*(df gs).n) (some (d (df gs).n++jT x.key x.cookie x.del x.data)):=by unfold tv;rw[t2]
 have I:qH gs d x (df gs).n=d (df gs).n++jT x.key x.cookie x.del x.data:=bB rfl;have E:∀i,i≠(df gs).n->qH gs d x i=d i:=λi z=>bG z
 have J:∀N,(nh gs x)[(df gs).n]'N=(df gs).add x:=λN=>ES O N
 have F:∀i(N:i< (nh gs x).length),i≠(df gs).n->(nh gs x)[i]'N=gs[i]'om:=λi N z=>IK (λe=>z e.symm) _
 have S:B8 (d (df gs).n++jT x.key x.cookie x.del x.data):=im (h.vb _ O).1 (Jb _ _ _ H.b);refine⟨W,λj b G=>?_,λi z=>?_,λi z y m=>?_,λi z K=>?_,λi z K=>?_,λj G=>?_⟩
 .rw[u]at G;by_cases e:j=9*(df gs).n
  .subst e;rw[gN]at G;cases G;exact⟨S,by rw[cw];omega⟩
  .rw[dN e]at G;have:=h.fb j b G;exact⟨this.1,om⟩
 .by_cases e:i=(df gs).n
  .subst e;obtain⟨r,hr,X⟩:=(h.vb _ O).2.2.2;rw[I,J];refine⟨S,?_,by rw[cw];omega,r++jT x.key x.cookie x.del x.data,im hr (Jb _ _ _ H.b),by rw[X,dr]⟩;rw[hz,cw,U,P];omega
  .rw[E i e,F i z e];have:=h.vb i om;exact⟨this.1,this.2.1,om,this.2.2.2⟩
 .by_cases e:i=(df gs).n
  .subst e;rw[I];rw[J]at m;have old:∀y∈(df gs).l,pj (d (df gs).n++jT x.key x.cookie x.del x.data) y:=λy m=>by
    have q:=h.rc _ O;rw[he]at q;exact(pj.app (q y m) (t.1.s.v.2 y m) (t.1.Pc m t3)).1
   unfold Ge.add at m;by_cases Y:x.del=true
   .rw[bB Y]at m;exact old y (sr.1 m).1
   .rw[bG Y]at m;rcases vq m with rfl|m
    .have:=(pj.new (D:=d (df gs).n) H (by simpa using Y)).1;unfold Ge.item;rw[<-t3];exact this
    .exact old y m
  .rw[E i e];rw[F i z e]at m;exact h.rc i om y m
 .by_cases e:i=(df gs).n
  .subst e;have q:=h.op _ O (by rw[he,t.2.2];decide);rw[u,I,gN];refine⟨rfl,λk T M=>?_⟩;rw[dN om];exact q.2 k T M
  .rw[F i z e]at K;have q:=h.op i om K;rw[u,E i e,dN om];refine⟨q.1,λk T M=>?_⟩;rw[dN om];exact q.2 k T M
 .by_cases e:i=(df gs).n
  .subst e;rw[J,hn.2,t.2.2]at K;exact absurd K dc
  .rw[F i z e]at K⊢;obtain⟨Z,q⟩:=h.cl i om K;rw[E i e,u];refine⟨Z,q.h,q.e,q.n,q.m,?_,λk T=>?_⟩
   .rw[dN om];exact q.x
   .rw[dN om];exact q.s k T
 .rw[hlen]at G;rw[u,dN (by have:=t.2.1;omega)];exact h.ft j G
def HS{gs d:List Ge}{j c:Nat->List Nat}{k}(l:d.length=gs.length)(h:∀i,i<gs.length->look d i k=look gs i k)(m:∀i x,i<gs.length->look gs i k=some x->nS (c i) x=nS (j i) x):has d c k=has gs j k:=by
 unfold has;rw[l,No h]
 cases o:mz gs k gs.length with
 |none=>rfl
 |some p=>
  have:=Lh o;show some (nS (c p.1) p.2)=some (nS (j p.1) p.2);rw[m p.1 p.2 this.1 this.2]
def DC{gs:List Ge}{i j:Nat}{e:Ge}(c:i<gs.length)(k):look (gs.set i e) j k=if j=i then dB e.l k else look gs j k:=by
 unfold look;by_cases h:j=i
 .subst h;rw[bB rfl,iA (by rw[lN];exact c),ES c]
 .rw[bG h,iD,iD,zP (λe=>h e.symm)]
def JM{gs}(h:ec gs)(k):look gs (df gs).n k=dB (df gs).l k:=by
 obtain⟨c,e⟩:=yn h;rw[uZ c,e]
def aaO{gs i k x}(h:look gs i k=some x)(c:i<gs.length):x∈gs[i].l:=by
 rw[uZ c]at h;exact(DN h).1
def Nf{gs}(h:ec gs)(x)(j)(k):look (nh gs x) j k=if j=(df gs).n then(if k=x.key then(if x.del=true then none else some ((df gs).item x))else look gs j k)else look gs j k:=by
 obtain⟨o,e⟩:=yn h;have m:=(mF h).1.s.v.1;unfold nh;rw[DC o];by_cases l:j=(df gs).n
 .subst l;rw[bB rfl,bB rfl,JM h];unfold Ge.add;by_cases d:x.del=true
  .rw[bB d,Ja m];by_cases c:k=x.key
   .rw[bB c,bB c,bB d]
   .rw[bG c,bG c]
  .rw[bG d,aBB m];show(if k=x.key then _ else _)=_;by_cases c:k=x.key
   .rw[bB c,bB c,bG d]
   .rw[bG c,bG c]
 .rw[bG l,bG l]
def Tw{f gs c B}(h:Inv f gs c B)(y:Nl){i}(j:i<gs.length){x}(l:x∈gs[i].l):nS (qH gs c y i) x=nS (c i) x:=by
 unfold qH;by_cases e:i=(df gs).n
 .rw[bB e];have d:=(h.s.ok i j).1;have:=(pj.app (E:=jT y.key y.cookie y.del y.data) (h.rc i j x l) (d.s.v.2 x l) (d.Pc l (h.vb i j).2.1)).2;unfold nS;rw[this]
 .rw[bG e]
def axt{f gs c B}(h:Inv f gs c B){x}(o:k_ x)(l:x.del=false)(k):has (nh gs x) (qH gs c x) k=if k=x.key then some x else has gs c k:=by
 obtain⟨u,t2,p,v⟩:=h.top;have q:=mF h.s;have r:=h.s.n1;have hlen:(nh gs x).length=gs.length:=lN;by_cases d:k=x.key
 .rw[bB d];unfold has;rw[hlen,show gs.length=(df gs).n+1 by omega,mz,Nf h.s,bB rfl,bB d,bG (by rw[l];decide)];show some (nS (qH gs c x (df gs).n) ((df gs).item x))=some x;unfold qH Ge.item;rw[bB rfl,<-p,(pj.new o l).2]
 .rw[bG d];refine HS hlen (λi j=>?_) (λi y j t=>Tw h x j (aaO t j));rw[Nf h.s];by_cases m:i=(df gs).n
  .rw[bB m,bG d]
  .rw[bG m]
def Inv.kill{f gs x B}(h:Inv f gs x B){i:Nat}(G:i<gs.length)(t:gs[i].mode≠1)(k:Int):Inv f (gs.set i (gs[i].del k)) x B:=by
 have z:=h.s.ok i G;have E:=ec.set h.s (z.1.del k) (by show gs[i].n<_;omega) (by show gs[i].mode=1↔gs[i].n=_;rw[z.2.1];exact z.2.2);have E:ec (gs.set i (gs[i].del k)):=by rwa [show(gs[i].del k).n=i from z.2.1]at E
 have hlen:(gs.set i (gs[i].del k)).length=gs.length:=lN;have key:∀j(m:j< (gs.set i (gs[i].del k)).length),∃d:j<gs.length,(gs.set i (gs[i].del k))[j].size=gs[j].size/\(gs.set i (gs[i].del k))[j].mode=gs[j].mode/\∀y∈(gs.set i (gs[i].del k))[j].l,y∈gs[j].l:=λj m=>by
  refine⟨om,?_⟩;by_cases e:i=j
  .subst e;rw[ES G];exact⟨Ge.OF z.1.s.v.1 k,rfl,λy q=>(sr.1 q).1⟩
  .rw[IK e];exact⟨rfl,rfl,λy q=>q⟩
 refine⟨E,h.fb,λj m=>?_,λj m y q=>?_,λj m t=>?_,λj m t=>?_,λj m=>?_⟩
 .obtain⟨d,k1,k2,D⟩:=key j m;rw[k1];exact h.vb j d
 .obtain⟨d,k1,k2,D⟩:=key j m;exact h.rc j d y (D y q)
 .obtain⟨d,k1,k2,D⟩:=key j m;rw[k2]at t;exact h.op j d t
 .obtain⟨d,k1,k2,D⟩:=key j m;rw[k2]at t;obtain⟨F,u⟩:=h.cl j d t;exact⟨F,u.h,u.e,u.n,λy q=>u.m y (D y q),u.x,u.s⟩
 .rw[hlen]at m;exact h.ft j m
def Inv.X9{f gs q B}(h:Inv f gs q B){i:Nat}(F:i<gs.length){b}(D:B8 b){t}(E:b.length<=t)(G:B<=t):Inv (cq f (9*i+1) (some b)) gs q t:=by
 refine⟨h.s,λj c d=>?_,λj d=>?_,h.rc,λj d u=>?_,λj d u=>?_,λj d=>?_⟩
 .by_cases e:j=9*i+1
  .subst e;rw[gN]at d;cases d;exact⟨D,E⟩
  .rw[dN e]at d;have:=h.fb j c d;exact⟨this.1,om⟩
 .have:=h.vb j d;exact⟨this.1,this.2.1,om,this.2.2.2⟩
 .have m:=h.op j d u;rw[dN om];refine⟨m.1,λk x y=>?_⟩;rw[dN om];exact m.2 k x y
 .obtain⟨z,m⟩:=h.cl j d u;refine⟨z,m.h,m.e,m.n,m.m,?_,λk x=>?_⟩
  .rw[dN om];exact m.x
  .rw[dN om];exact m.s k x
 .rw[dN om];exact h.ft j d
def sO(gs:List Ge)(c:Nat->List Nat):Nat->List Nat:=λi=>if i=gs.length then il 1 ((gs.length+1:Nat):Int) 0 else c i
def Hb{gs}(h:ec gs):(fi gs).length=gs.length+1:=by
 have:=h.n1;unfold fi;simp;omega
def Mh{gs}(h:ec gs){i}(j:i< (fi gs).length):(i<gs.length-1/\∃o:i<gs.length,(fi gs)[i]=gs[i])\/(i=gs.length-1/\(fi gs)[i]=fw (df gs))\/(i=gs.length/\(fi gs)[i]=kP gs.length):=by
 have l:=h.n1;have hlen:=Hb h;have c:∀{y},(fi gs)[i]?=some y->(fi gs)[i]=y:=λh=>by
  rw[db j]at h;exact oc h
 by_cases d:i<gs.length-1
 .refine .inl ⟨d,om,c ?_⟩;unfold fi;rw[nz (by rw[dH];omega),List.getElem?_take_of_lt d,db]
 .by_cases m:i=gs.length-1
  .refine .inr (.inl ⟨m,c ?_⟩);unfold fi;rw[kX (by rw[dH];omega),dH,show i-min (gs.length-1) gs.length=0 by omega];rfl
  .refine .inr (.inr ⟨om,c ?_⟩);unfold fi;rw[kX (by rw[dH];omega),dH,show i-min (gs.length-1) gs.length=1 by omega];rfl
def Inv.rot{f gs q B}(h:Inv f gs q B)(T:gs.length<8):Inv (DO f gs) (fi gs) (sO gs q) (B+248):=by
 have U:=h.s.n1;have hlen:=Hb h.s;have N:=mF h.s;obtain⟨hl,he⟩:=yn h.s;obtain⟨D,E⟩:∃D,cq f (9*gs.length) (some (il 1 ((gs.length+1:Nat):Int) 0))=D:=⟨_,rfl⟩
 have O:DO f gs=cq D (9*(gs.length-1)+1) (some (gP D (9*(gs.length-1)+1))):=by rw[<-E];rfl
 have t:∀i,i<gs.length->sO gs q i=q i:=λi d=>bG om
 have F:sO gs q gs.length=il 1 ((gs.length+1:Nat):Int) 0:=bB rfl;have main:Inv D (fi gs) (sO gs q) (B+248):=by
  rw[<-E];have old:∀i(d:i< (fi gs).length),i≠gs.length->∃m:i<gs.length,(fi gs)[i].size=gs[i].size/\(fi gs)[i].l=gs[i].l/\(((fi gs)[i].mode=3)↔gs[i].mode=3):=λi d P=>by
   rcases Mh h.s d with⟨_,m,e⟩| ⟨G,e⟩| ⟨G,_⟩
   .exact⟨m,by rw[e],by rw[e],by rw[e]⟩
   .refine⟨om,?_⟩;have W:gs[i]'om=df gs:=by
     obtain⟨_,X⟩:=uV h.s;have:gs[i]?=gs[gs.length-1]?:=by rw[G]
     rw[db om,db om]at this;rw[oc this];exact X
    rw[e,W];exact⟨rfl,rfl,⟨λh=>by have h:(2:Int)=3:=h;omega,λh=>by rw[N.2.2]at h;omega⟩⟩
   .exact absurd G P
  have new:∀(d:gs.length< (fi gs).length),(fi gs)[gs.length]=kP gs.length:=λd=>by
   rcases Mh h.s d with⟨G,_⟩| ⟨G,e⟩| ⟨_,e⟩
   .omega
   .omega
   .exact e
  refine⟨azO h.s T,λj b H=>?_,λi d=>?_,λi d y K=>?_,λi d z=>?_,λi d z=>?_,λj H=>?_⟩
  .by_cases e:j=9*gs.length
   .subst e;rw[gN]at H;cases H;exact⟨vr _ _ _,by rw[qB];omega⟩
   .rw[dN e]at H;have:=h.fb j b H;exact⟨this.1,om⟩
  .by_cases e:i=gs.length
   .subst e;rw[F,new];exact⟨vr _ _ _,by rw[qB];rfl,by rw[qB];omega,[],λx Y=>(by cases Y),by rw[gd]⟩
   .obtain⟨m,k1,k2,I⟩:=old i d e;have:=h.vb i m;rw[t i m,k1];exact⟨this.1,this.2.1,om,this.2.2.2⟩
  .by_cases e:i=gs.length
   .subst e;rw[new]at K;cases K
   .obtain⟨m,k1,k2,I⟩:=old i d e;rw[k2]at K;rw[t i m];exact h.rc i m y K
  .by_cases e:i=gs.length
   .subst e;rw[F,gN];exact⟨rfl,λk M J=>by rw[dN om];exact h.ft _ om⟩
   .obtain⟨m,k1,k2,I⟩:=old i d e;have u:=h.op i m λZ=>z (I.2 Z)
    rw[t i m,dN om];exact⟨u.1,λk M J=>by rw[dN om];exact u.2 k M J⟩
  .by_cases e:i=gs.length
   .subst e;rw[new]at z;have z:(1:Int)=3:=z;omega
   .obtain⟨m,k1,k2,I⟩:=old i d e;obtain⟨Q,u⟩:=h.cl i m (I.1 z);rw[t i m,k2];exact⟨Q,u.h,u.e,u.n,u.m,by rw[dN om];exact u.x,λk M=>by rw[dN om];exact u.s k M⟩
  .rw[dN om];exact h.ft j om
 rw[O];have S:=Tq main (9*(gs.length-1)+1);exact main.X9 om S.1 S.2 (dz _)
def WK{gs}(h:ec gs)(i)(k):look (fi gs) i k=look gs i k:=by
 have hlen:=Hb h;by_cases d:i< (fi gs).length
 .rw[uZ d];rcases Mh h d with⟨_,j,e⟩| ⟨c,e⟩| ⟨c,e⟩
  .rw[e,uZ j]
  .rw[e];have:=JM h k;rw[(mF h).2.1,<-c]at this;exact this.symm
  .rw[e,c];unfold look;rw[iD,nA (dz _)];rfl
 .unfold look;rw[iD,iD,nA om,nA om]
def agl{f gs c B}(h:Inv f gs c B)(k):has (fi gs) (sO gs c) k=has gs c k:=by
 have hlen:=Hb h.s;have d:look (fi gs) gs.length k=none:=by
  rw[WK h.s];unfold look;rw[iD,nA (dz _)];rfl
 unfold has;rw[hlen,mz,d];dsimp only;rw[No λi _=>WK h.s i k]
 cases j:mz gs k gs.length with
 |none=>rfl
 |some p=>
  have:=Lh j;show some (nS (sO gs c p.1) p.2)=some (nS (c p.1) p.2);unfold sO;rw[bG om]
end
section
open Go.RowKit Pl AI
attribute [local irreducible] bp.wp
structure iy(f:Fs)(gs:List Ge)(vol:Nat->List Nat)(ds:List Nl)(B:Nat):Prop where
 i:Inv f gs vol B
 d:qi ds
 h:∀k,lq k ds=has gs vol k
def Inv.mono{f gs d B}(h:Inv f gs d B){q}(t:B<=q):Inv f gs d q:=
 ⟨h.s,λj b u=>⟨(h.fb j b u).1,n_ (h.fb j b u).2 t⟩,λi m=>⟨(h.vb i m).1,(h.vb i m).2.1,n_ (h.vb i m).2.2.1 t,(h.vb i m).2.2.2⟩,h.rc,h.op,h.cl,h.ft⟩
def agA(k):(fl (num k 8)).length=12:=by rw[rq,dk]
structure Rl(gs eu:List Ge)(os:List Ge)(k:Int)(i:Nat):Prop where
 n:eu.length=gs.length
 o:∀j k',k'≠k->look eu j k'=look gs j k'
 k:∀j,look eu j k=none\/(look eu j k=look gs j k/\∀(t:Nat)(h:t<os.length),t<i->os[t].n≠j)
def Zn{f gs vol ds B}(h:iy f gs vol ds B)(hB:B<=15000){k:Int}(iB:0<=k)(hk8:k<8):
 ∃f' gs' mj kI,Cw (dA (cT f)++sA gs++[.r (ds.map dR),.i k])=some (.r (kI.map dR)::dA (cT f')++sA gs')/\iy f' gs' mj kI (B+248):=by
 have hS:=h.i.s;have qS:=hS.n1;have Im:=hS.n8;obtain⟨os,Io⟩:∃os,(gs.take (gs.length-1)).filter (lY k)=os:=⟨_,rfl⟩
 have kn:os.length<=7:=by
  have:=QK (lY k) (gs.take (gs.length-1));rw[Io,dH]at this;omega
 have hom:∀e∈os,e.n<gs.length-1:=λe he=>by
  rw[<-Io]at he;obtain⟨i,hi,h2⟩:=kL (Iz.1 he).1;rw[dH]at hi;rw[acT]at h2;have:=(hS.ok i om).2.1;rw[h2]at this;omega
 have If:∀j,j<gs.length-1->look gs j k≠none->∃(t:Nat)(h:t<os.length),os[t].n=j:=λj hj hx=>by
  have hm:gs[j]'om∈os:=by
   rw[<-Io];refine Iz.2 ⟨List.mem_iff_getElem.2 ⟨j,by rw[dH];omega,by rw[acT]⟩,?_⟩;rw[uZ (show j<gs.length by omega)]at hx;unfold lY
   cases hf:dB (gs[j]'om).l k with
   |none=>exact absurd hf hx
   |some y=>rfl
  obtain⟨t,ht,e⟩:=kL hm;exact⟨t,ht,by rw[e];exact(hS.ok j om).2.1⟩
 have hold:=ahr hS k;rw[Io]at hold
 suffices sy:∃o,Fo TN (dA (cT f)++sA gs++[.r (ds.map dR),.i k])=some o/\∃f' gs' mj kI,o=.r (kI.map dR)::dA (cT f')++sA gs'/\iy f' gs' mj kI (B+248)by
  obtain⟨o,h1,f',gs',mj,kI,rfl,h2⟩:=sy;exact⟨f',gs',mj,kI,h1,h2⟩
 refine kT ?_;refine bz hold ?_;refine bO (λxs=>∃f1 eu,xs=dA (cT f1)++sA eu/\Inv f1 eu vol (B+84)/\Rl gs eu os k os.length) ?_ ?_
 .refine wp_loop (I:=λa=>∃(i:Nat)(f1:Fs)(eu:List Ge),a=.i i::dA (cT f1)++sA eu/\i<=os.length/\Inv f1 eu vol (B+12*i)/\Rl gs eu os k i) (mu:=cN os.length) ⟨0,f,gs,rfl,om,h.i,rfl,λ_ _ _=>rfl,λj=>.inr ⟨rfl,λt _ ht=>by omega⟩⟩ ?_;rintro a ⟨i,f1,eu,rfl,e1,e2,e3⟩;refine uR ?_;rw[bA];refine cD rfl (λhc=>?_) (λhc=>?_);rotate_left
  .obtain rfl:i=os.length:=om;exact bm ⟨f1,eu,rfl,e2.mono om,e3⟩
  have hi:i<os.length:=om;have hS1:=e2.s;have pT:=e3.n;obtain⟨n,hn⟩:∃n,os[i].n=n:=⟨_,rfl⟩
  have CE:n<gs.length-1:=by rw[<-hn];exact hom _ (cV hi)
  have sv:n<eu.length:=om;have pP:=hS1.ok n sv;have abU:eu[n].mode≠1:=λhm=>by have:=pP.2.2.1 hm;omega
  obtain⟨gS,hg2⟩:∃gS,eu.set n (eu[n].del k)=gS:=⟨_,rfl⟩
  have zC:=e2.kill sv abU k;rw[hg2]at zC;have hl2:gS.length=eu.length:=by rw[<-hg2,lN]
  have hch:=Jc hS1 (e:=eu[n].del k) (by show eu[n].n<_;omega) (by rw[show(eu[n].del k).n=n from pP.2.1,hg2];exact zC.s);rw[show(eu[n].del k).n=n from pP.2.1,hg2]at hch;refine bO (λxs=>xs=sA gS) ?_ ?_
  .refine wp_loop (I:=λa=>∃(m:Nat)(c:List Ge),a=.i m::sA c/\m<=eu.length/\c=if n<m then gS else eu) (mu:=cN eu.length) ⟨0,eu,rfl,om,(bG om).symm⟩ ?_;rintro a ⟨m,c,rfl,m1,m2⟩;have ja:c.length=eu.length:=by rw[m2];split<;>omega
   refine uR ?_;rw[bA,ja];refine cD rfl (λhx=>?_) (λhx=>?_);rotate_left
   .obtain rfl:m=eu.length:=om;rw[bB sv]at m2;subst m2;exact bm rfl
   have CM:m<c.length:=om;have zm:c[m].n=m:=by
    by_cases hq:n<m
    .rw[bB hq]at m2;have:c[m]=gS[m]:=by simp only[m2]
     rw[this];exact(zC.s.ok m om).2.1
    .rw[bG hq]at m2;have:c[m]=eu[m]:=by simp only[m2]
     rw[this];exact(hS1.ok m om).2.1
   refine bO (λxs=>∃c':List Ge,xs=sA c'/\c'=if n<m+1 then gS else eu) ?_ ?_
   .refine dx gR m CM ?_;refine eR oR i hi ?_;refine ya oR i hi ?_;refine cD rfl (λhq=>?_) (λhq=>?_)
    .have hq:((c[m].n+1:Nat):Int)=((os[i].n+1:Nat):Int):=hq;obtain rfl:m=n:=om;rw[bG om]at m2;subst m2;refine dx gR m CM ?_;refine bz (anG pP.1 abU k) ?_;refine bz hch ?_;exact bm ⟨gS,rfl,by rw[bB om]⟩
    .have hq:¬((c[m].n+1:Nat):Int)=((os[i].n+1:Nat):Int):=hq;refine bm ⟨c,rfl,?_⟩;rw[m2];by_cases h3:n<m
     .rw[bB h3,bB om]
     .rw[bG h3,bG om]
   .rintro _ ⟨c',rfl,hc'⟩;refine nW ?_;refine cj m ?_;exact bm ⟨⟨m+1,c',rfl,om,hc'⟩,dy eu.length m⟩
  .rintro _ rfl;have aFK:=zC.okF om;have wO:=Tq zC (9*n+1);have iO:=agA k;have hw:=(xh aFK (j:=9*n+1) om (x:=fl (num k 8)) ⟨r6 (iu _ _),om⟩ (by rw[cw];omega) (.i 1) (.i 9000) (.b false) (.r (gS.map gR)) (.r (ds.map dR))).1;have PJ:=tz (n:=n) (t:=1) om dc;refine nW ?_;refine eR oR i hi ?_;refine gy (f:=oR) (l:=os) (j:=i) rfl rfl hi rfl rfl ?_;rw[hn];refine nW ?_;refine bR PJ ?_;refine nN (m:=fl (num k 8)) (ahc k iB) rfl rfl (nW ?_);refine bz hw ?_;refine cj i ?_;refine bm ⟨⟨i+1,cq f1 (9*n+1) (some (gP f1 (9*n+1)++fl (num k 8))),gS,rfl,om,?_,?_⟩,?_⟩
   .exact zC.X9 om (im wO.1 (r6 (iu _ _))) (by rw[cw];omega) om
   .refine⟨om,λj k' gM=>?_,λj=>?_⟩
    .rw[<-hg2,DC sv];split
     .rename_i hj;subst hj;rw[show dB (eu[j].del k).l k'=_ from Ja pP.1.s.v.1 k',bG gM,<-uZ sv];exact e3.o j k' gM
     .exact e3.o j k' gM
    .rw [<-hg2,DC sv];by_cases hj:j=n
     .rw[bB hj];left;rw[show dB (eu[n].del k).l k=_ from Ja pP.1.s.v.1 k,bB rfl]
     .rw[bG hj];rcases e3.k j with h1| ⟨h1,h2⟩
      .exact .inl h1
      .refine .inr ⟨h1,λt ht hlt=>?_⟩;by_cases n4:t=i
       .subst n4;rw[hn];exactλe=>hj e.symm
       .exact h2 t ht om
   .show os.length- ((i+1:Nat):Int).toNat<os.length-i;omega
 rintro _ ⟨f1,eu,rfl,hI,hG⟩;have hS1:=hI.s;have wJ:=mF hS1;have hlk:=JM hS1 k;have wO:=hG.n;have hno:∀j,j<gs.length-1->look eu j k=none:=λj hj=>by
  rcases hG.k j with h1| ⟨h1,h2⟩
  .exact h1
  .by_cases hx:look gs j k=none
   .rw[h1,hx]
   .obtain⟨t,ht,e⟩:=If j hj hx;exact absurd e (h2 t ht ht)
 have nk:=DG wJ.1.mb k;have abV:∀k',k'≠k->has eu vol k'=has gs vol k':=λk' gM=>HS wO (λj _=>hG.o j k' gM) λ_ _ _ _=>rfl
 refine nW ?_;refine bz (Wa hS1) ?_
 cases hf:dB (df eu).l k with
 |none=>
  rw[hf]at nk hlk;simp only[pg]at nk;refine dC (dA (cT f1)++sA eu++[.r (ds.map dR)]) ?_ ?_
  .refine bz nk ?_;refine cu ?_;exact bm rfl
  refine bz (l:=[.r ((jR k ds).map dR)]) (by rw[<-EO];rfl) ?_;refine bm ⟨f1,eu,vol,jR k ds,rfl,hI.mono om,h.d.del,λk'=>?_⟩;rw[Hd h.d];by_cases gM:k'=k
  .rw[bB gM,gM];unfold has;rw[GZ];rfl;intro j hj;by_cases hj':j=eu.length-1
   .rw[hj',<-wJ.2.1];exact hlk
   .exact hno j om
  .rw[bG gM,abV k' gM];exact h.h k'
 |some y=>
  rw[hf]at nk hlk;simp only[pg]at nk;obtain⟨hl,he⟩:=yn hS1;have zr:=DN hf;have hyr:=hI.rc _ hl y (by rw[he];exact zr.1);have hx:k_ ⟨k,y.cookie,true,[]⟩:=⟨iB,hk8,hyr.c0,hyr.c4,λ_=>rfl,λz hz=>(by cases hz),fu _⟩
  obtain⟨t1,t2,t3,t4⟩:=hI.top;have had:=XH (hI.okF om) hS1 (ds:=ds) hx (by show(df eu).size+dq 0<=17000;rw[show dq 0=24 from rfl];omega) (by rw[t2];omega);have hI':=hI.add om hx;refine dC (dA (cT (tv f1 eu ⟨k,y.cookie,true,[]⟩))++sA (nh eu ⟨k,y.cookie,true,[]⟩)++[.r ((jR k ds).map dR)]) ?_ ?_
  .refine bz nk ?_;refine gY (uR ?_);refine bz had ?_;exact bm rfl
  refine bz (l:=[.r ((jR k (jR k ds)).map dR)]) (by show some [L.r (pF k ((jR k ds).map dR))]=_;rw[EO]) ?_;refine bm ⟨_,_,qH eu vol ⟨k,y.cookie,true,[]⟩,jR k (jR k ds),rfl,hI'.mono om,h.d.del.del,λk'=>?_⟩;rw[Hd h.d.del,Hd h.d];have abX:=Nf hS1 ⟨k,y.cookie,true,[]⟩;have hlen:(nh eu ⟨k,y.cookie,true,[]⟩).length=eu.length:=lN;by_cases gM:k'=k
  .rw[bB gM,gM];unfold has;rw[GZ];rfl;intro j hj;rw[hlen]at hj;rw[abX];by_cases hj':j=(df eu).n
   .rw[bB hj',bB rfl,bB rfl]
   .rw[bG hj'];have:=wJ.2.1;exact hno j om
  .rw[bG gM,bG gM,h.h k',<-abV k' gM];refine(HS hlen (λi hi=>?_) (λi z hi hz=>Tw hI _ hi (aaO hz hi))).symm;rw[abX];by_cases hj:i=(df eu).n
   .rw[bB hj,bG gM]
   .rw[bG hj]
def fY(e:Ge):Ge:={e with mode:=3}
def jN(f:Fs)(i:Nat)(D:List Nat)(k:Nat):Fs:=λj=>if 9*i+2<=j/\j<9*i+2+k then some ((dO D).getD (j- (9*i+2)) [])else f j
def q_{f i D k j}(h:j<9*i+2\/9*i+2+k<=j):jN f i D k j=f j:=bG om
def XL{f i D k j}(h:j<k):jN f i D k (9*i+(2+j))=some ((dO D).getD j []):=by
 unfold jN;rw[bB om,show 9*i+(2+j) - (9*i+2)=j by omega]
def aBX{f i D k}:cq (jN f i D k) (9*i+(2+k)) (some ((dO D).getD k []))=jN f i D (k+1):=by
 funext j;by_cases e:j=9*i+(2+k)
 .subst e;rw[gN,XL (p0 k)]
 .rw[dN e];unfold jN;by_cases h:9*i+2<=j/\j<9*i+2+k
  .rw[bB h,bB om]
  .rw[bG h,bG om]
def HP{D:List Nat}(c:B8 D)(k):B8 ((dO D).getD k [])/\((dO D).getD k []).length<=Sp.cU D.length:=by
 by_cases h:k< (dO D).length
 .rw[iA h];have:=(BC c).at h;exact⟨this.1,om⟩
 .rw[iD,nA om];exact⟨λx d=>(by cases d),fu _⟩
def Inv.jV{f gs d B}(h:Inv f gs d B)(D:B<=16000){i:Nat}(t:i<gs.length):jV 1 ((i+1:Nat):Int) 0 (d i).length gs[i].l/\∀x∈gs[i].l,pK x:=by
 have m:=h.s.ok i t;have y:=h.vb i t;have E:=m.1.n8;have z:=m.1.bd;refine⟨⟨⟨dc,dc,om,om,dc,dc⟩,om,om,m.1.s.v,λx q=>?_⟩,λx q=>?_⟩
 .have:=m.1.Pc q y.2.1;exact this
 .have:=m.1.s.k x q;have u:=h.rc i t x q;exact⟨this.1,om,u.c0,by have:=u.c4;omega⟩
def Inv.JQ{f gs u B}(h:Inv f gs u B)(S:B<=16000){i:Nat}(F:i<gs.length)(T:gs[i].mode=2):
 Inv (cq (cq (jN f i (u i) 6) (9*i+8) (some (iY 1 ((i+1:Nat):Int) 0 (u i).length (ep (u i)) gs[i].l))) (9*i) none) (gs.set i (fY gs[i])) u (B+248):=by
 have x:=h.s.ok i F;have H:=h.vb i F;have hlen:(gs.set i (fY gs[i])).length=gs.length:=lN;have I:fZ (fY gs[i]):=⟨x.1.n8,(by show(1:Int)<=3;omega),(by show(3:Int)<=3;omega),x.1.s,x.1.cl,x.1.en,x.1.g0,x.1.g8,x.1.sz⟩
 have J:=ec.set h.s I (by show gs[i].n<_;omega) (by
  show(3:Int)=1↔gs[i].n=_;rw[x.2.1,<-x.2.2,T];decide)
 have J:ec (gs.set i (fY gs[i])):=by rwa [show(fY gs[i]).n=i from x.2.1]at J
 have K:=x.1.s.len;have P:=h.jV S F;have U:(iY 1 ((i+1:Nat):Int) 0 (u i).length (ep (u i)) gs[i].l).length<=248:=by
  unfold iY;rw[rq,xv];omega
 have key:∀j(d:j< (gs.set i (fY gs[i])).length),j≠i->∃t:j<gs.length,(gs.set i (fY gs[i]))[j]=gs[j]:=λj d M=>⟨om,IK (λe=>M e.symm) _⟩
 have m:∀(d:i< (gs.set i (fY gs[i])).length),(gs.set i (fY gs[i]))[i]=fY gs[i]:=λd=>ES F d
 refine⟨J,λj b d=>?_,λj d=>?_,λj d y E=>?_,λj d D=>?_,λj d D=>?_,λj d=>?_⟩
 .by_cases e:j=9*i
  .subst e;rw[gN]at d;cases d
  rw[dN e]at d;by_cases Q:j=9*i+8
  .subst Q;rw[gN]at d;cases d;exact⟨r6 (HK _ _ _ _ _ _),om⟩
  rw[dN Q]at d;unfold jN at d;split at d
  .cases d;have:=HP H.1 (j- (9*i+2));refine⟨this.1,n_ this.2 ?_⟩;unfold Sp.cU;omega
  .have:=h.fb j b d;exact⟨this.1,om⟩
 .by_cases e:j=i
  .subst e;rw[m];exact⟨H.1,H.2.1,om,H.2.2.2⟩
  .obtain⟨t,k⟩:=key j d e;rw[k];have:=h.vb j t;exact⟨this.1,this.2.1,om,this.2.2.2⟩
 .by_cases e:j=i
  .subst e;rw[m]at E;exact h.rc j F y E
  .obtain⟨t,k⟩:=key j d e;rw[k]at E;exact h.rc j t y E
 .by_cases e:j=i
  .subst e;rw[m]at D;exact absurd rfl D
  .obtain⟨t,k⟩:=key j d e;rw[k]at D;have z:=h.op j t D;rw[dN om,dN om,q_ om];exact⟨z.1,λq G N=>by rw[dN om,dN om,q_ om];exact z.2 q G N⟩
 .by_cases e:j=i
  .subst e;rw[m];refine⟨gs[j].l,P.1,P.2,K,λy E=>E,?_,λq G=>?_⟩
   .rw[dN om,gN]
   .rw[dN om,dN om,XL G]
  .obtain⟨t,k⟩:=key j d e;rw[k]at D⊢;obtain⟨O,z⟩:=h.cl j t D;refine⟨O,z.h,z.e,z.n,z.m,?_,λq G=>?_⟩
   .rw[dN om,dN om,q_ om];exact z.x
   .rw[dN om,dN om,q_ om];exact z.s q G
 .rw[hlen]at d;rw[dN om,dN om,q_ om];exact h.ft j d
def ast{gs:List Ge}{i}(c:i<gs.length)(j)(k):look (gs.set i (fY gs[i])) j k=look gs j k:=by
 rw[DC c];split
 .rename_i e;subst e;rw[uZ c];rfl
 .rfl
def BY(f:Fs)(gs:List Ge)(c:Nat->List Nat)(b:Bool)(l:Fs)(d:List Ge):Prop:=
 (b=false/\l=f/\d=gs/\∀(j:Nat)(h:j<gs.length),gs[j].mode≠2)\/
 (b=true/\∃(i:Nat)(h:i<gs.length),gs[i].mode=2/\d=gs.set i (fY gs[i])/\l=cq (cq (jN f i (c i) 6) (9*i+8) (some (iY 1 ((i+1:Nat):Int) 0 (c i).length (ep (c i)) gs[i].l))) (9*i) none)
def aAw{f gs vol B}(h:Inv f gs vol B)(hB:B<=15000)(data:L):
 ∃b f' gs',GN (dA (cT f)++sA gs++[data])=some (.b b::dA (cT f')++sA gs')/\BY f gs vol b f' gs':=by
 have hS:=h.s;have Im:=hS.n8
 suffices sy:∃o,Fo Vh (dA (cT f)++sA gs++[data])=some o/\∃b f' gs',o=.b b::dA (cT f')++sA gs'/\BY f gs vol b f' gs' by
  obtain⟨o,h1,b,f',gs',rfl,h2⟩:=sy;exact⟨b,f',gs',h1,h2⟩
 refine kT ?_;refine bO (λxs=>xs=[]/\∀(j:Nat)(h:j<gs.length),gs[j].mode≠2) ?_ ?_;rotate_left
 .rintro _ ⟨rfl,hno⟩;refine nW ?_;exact bm ⟨false,f,gs,rfl,.inl ⟨rfl,rfl,rfl,hno⟩⟩
 refine wp_loop (I:=λa=>∃i:Nat,a=[.i i]/\i<=gs.length/\∀(j:Nat)(h:j<gs.length),j<i->gs[j].mode≠2) (mu:=cN gs.length) ⟨0,rfl,om,λj hj hlt=>by omega⟩ ?_;rintro a ⟨i,rfl,e1,e2⟩;refine uR ?_;rw[bA];refine cD rfl (λhc=>?_) (λhc=>bm ⟨rfl,λj hj=>e2 j hj om⟩);have hi:i<gs.length:=om;have hg:=hS.ok i hi;refine dx gR i hi ?_;refine cD rfl (λhq=>?_) (λhq=>?_)
 .refine cj i ?_;refine bm ⟨⟨i+1,rfl,om,λj hj hlt=>?_⟩,?_⟩
  .by_cases e:j=i
   .subst e;exact hq
   .exact e2 j hj om
  .show gs.length- ((i+1:Nat):Int).toNat<gs.length-i;omega
 have hm:gs[i].mode=2:=jr.1 hq;have hop:=h.op i hi (by rw[hm];decide);have hv:=h.vb i hi;obtain⟨r,hr8,hr⟩:=hv.2.2.2;have dQ:=h.okF om;have hH:=h.jV om hi;have hl8:=hg.1.s.len;have CR:=hg.1.n8;obtain⟨D,hD⟩:∃D,vol i=D:=⟨_,rfl⟩
 have hinv:=h.JQ om hi hm;rw[hD]at hop hv hr hH hinv;have P7:r.length<=B:=by
  have:=cW List.length hr;rw[cw,qB]at this;omega
 have hsu:=aeH (a:=1) (g:=((i+1:Nat):Int)) (r:=0) om hr8 om;rw[<-hr]at hsu;have abY:gs[i].gn.num=((i+1:Nat):Int):=by rw[Ge.num,hg.2.1]
 have aHh:Sp.cU D.length<=20000:=by unfold Sp.cU;omega
 have h6:=oo D;have P':∀k,dG (jN f i D k):=λk j b hj=>by
  unfold jN at hj;split at hj
  .cases hj;have:=HP hv.1 (j- (9*i+2));exact⟨this.1,om⟩
  .exact dQ j b hj
 have CP:(iY 1 ((i+1:Nat):Int) 0 D.length (ep D) gs[i].l).length<=248:=by
  unfold iY;rw[rq,xv];omega
 obtain⟨f7,CS⟩:∃f7,cq (jN f i D 6) (9*i+8) (some (iY 1 ((i+1:Nat):Int) 0 D.length (ep D) gs[i].l))=f7:=⟨_,rfl⟩
 have aFN:dG f7:=by
  rw[<-CS];exact(P' 6).cq λb hb=>by cases hb;exact⟨r6 (HK _ _ _ _ _ _),om⟩
 rw[CS]at hinv;have abZ:=tz (n:=i) (t:=0) om dc;have aca:=tz (n:=i) (t:=2) om dc;rw[<-abY]at abZ aca;refine bz abZ ?_;refine bz (NR dQ (j:=9*i) om hop.1) ?_;refine bz hsu ?_;refine bz (JB hg.1.mb) ?_;refine bz (auh hv.1 hH.1 om) ?_;refine bO (λxs=>xs=dA (cT (jN f i D 6))) ?_ ?_
 .refine wp_loop (I:=λa=>∃k:Nat,a=.i k::dA (cT (jN f i D k))/\k<=6) (mu:=cN 6) ⟨0,?_,om⟩ ?_
  .rw[show jN f i D 0=f from funext λj=>q_ om];rfl
  rintro a ⟨k,rfl,k1⟩;refine uR ?_;rw[bA,h6];refine cD rfl (λhx=>?_) (λhx=>?_);rotate_left
  .obtain rfl:k=6:=om;exact bm rfl
  have hk:k<6:=om;have Qa:k< (dO D).length:=om;have hgd:(dO D).getD k []=(dO D)[k]:=iA Qa;have hsk:=HP hv.1 k;have acb:gP (jN f i D k) (9*i+(2+k))=[]:=by
   unfold gP;rw[q_ om,hop.2 (2+k) om om]
  have hw:=(xh (P' k) (j:=9*i+(2+k)) om (x:=(dO D).getD k []) ⟨hsk.1,om⟩ (by rw[acb];show((dO D).getD k []).length<=_;omega) (.i 1) (.i 9000) (.b false) (.r (gs.map gR)) data).2;rw[acb,kZ,aBX]at hw;have HZ:=are (n:=i) (k:=k) om hk;rw[<-abY]at HZ;refine bz HZ ?_;refine eR fR k Qa ?_;refine gy (f:=fR) (l:=dO D) (j:=k) rfl rfl Qa rfl rfl ?_;rw[<-hgd];refine nW ?_;refine bz hw ?_;refine cj k ?_;exact bm ⟨⟨k+1,rfl,om⟩,dy 6 k⟩
 rintro _ rfl;have acd:gP (jN f i D 6) (9*i+8)=[]:=by
  unfold gP;rw[q_ om,hop.2 8 om om]
 have hw8:=(xh (P' 6) (j:=9*i+8) om (x:=iY 1 ((i+1:Nat):Int) 0 D.length (ep D) gs[i].l) ⟨r6 (HK _ _ _ _ _ _),om⟩ (by rw[acd];show(iY _ _ _ _ _ _).length<=_;omega) (.i 1) (.i 9000) (.b false) (.r (gs.map gR)) data).2;rw[acd,kZ,CS]at hw8;have hrm:=apj aFN (j:=9*i) (b:=D) om (by rw[<-CS,dN om,q_ om];exact hop.1);have iO:=ags hg.1 hm;have hch:=Jc hS (e:=fY gs[i]) (by show gs[i].n<_;omega) (by rw[show(fY gs[i]).n=i from hg.2.1];exact hinv.s);rw[show(fY gs[i]).n=i from hg.2.1]at hch;refine nW ?_;refine nN (m:=iY 1 ((i+1:Nat):Int) 0 D.length (ep D) gs[i].l) (aqg hH.1 (KI D) hH.2 om) rfl rfl (nW ?_);refine bz aca ?_;refine bz hw8 ?_;refine bz hrm ?_;refine bz iO ?_;refine bz hch ?_;refine bm ⟨true,cq f7 (9*i) none,gs.set i (fY gs[i]),rfl,.inr ⟨rfl,i,hi,hm,rfl,?_⟩⟩;rw[<-CS,hD]
def BY.inv{f gs m b q d B}(h:BY f gs m b q d)(t:Inv f gs m B)(x:B<=16000):Inv q d m (B+248)/\d.length=gs.length/\∀j k,look d j k=look gs j k:=by
 rcases h with⟨_,rfl,rfl,_⟩| ⟨_,i,u,y,rfl,rfl⟩
 .exact⟨t.mono om,rfl,λ_ _=>rfl⟩
 .exact⟨t.JQ x u y,lN,λj k=>ast u j k⟩
def ayl(k):KL [.i k]=some [.i (kl k)]:=by rw[<-Lu k];rfl
def aCw(x:It):L7 [.i x.key,.i x.cookie,.i x.off,.i x.size]=some [.i (dq x.size)]:=by
 refine bJ ?_;exact du (Aq x.size) rfl rfl (bm rfl)
def J2{m}(h:WM m){b}(hb:b=true↔MV m):Bg (g_ m)=some [.b b]:=by
 have no:∀s,s<8->¬BW m s->[L.b false]=[L.b b]:=λs hs hk=>oP hb λhv=>hk (hv.1 s hs)
 refine bJ ?_;refine bO (λxs=>r7 m/\xs=[.i (de (cat m))]) ?_ ?_;rotate_left
 .rintro _ ⟨hS,rfl⟩;refine nW ?_;exact bO (dp (m.live=de (cat m)/\0<=m.dW/\m.dW<=1099511627776)) cB (rB (hb.trans ⟨λh=>h.2,λh=>⟨hS,h⟩⟩))
 refine wp_loop (I:=λa=>∃s:Nat,a=[.i (de (fp m s)),.i s]/\s<=8/\∀t,t<s->BW m t) (mu:=gX 8) ⟨0,rfl,om,λt ht=>by omega⟩ ?_;rintro a ⟨s,rfl,e1,e2⟩;refine cz (λhc=>?_) (λhc=>?_);rotate_left
 .obtain rfl:s=8:=om;exact bm ⟨λt ht=>e2 t ht,rfl⟩
 have hs:s<8:=om;have hlen:=h.hn s;refine bO (λxs=>BW m s/\xs=[.i (de (fp m (s+1)))]) ?_ ?_;rotate_left
 .rintro _ ⟨h1,rfl⟩;refine nW ?_;refine cj s ?_;refine bm ⟨⟨s+1,rfl,om,λt ht=>?_⟩,?_⟩
  .by_cases e:t=s
   .subst e;exact h1
   .exact e2 t om
  .show 8- ((s+1:Nat):Int).toNat<8-s;omega
 refine nH ⟨by show(0:Int)<=s;omega,by show(s:Int)< (8:Nat);omega⟩ (nW ?_);refine vG (m:=m) hs rfl rfl (nW ?_);obtain⟨v,hv⟩:=fA (VL (m.st s));refine bR (Mo (m.st s) om hv) ?_;refine tw rfl hv (λhx=>bm (no s hs λh=>hx h.1)) λhx=>?_
 refine uR ?_;rw[bA];have g2:=wH h s;refine wp_loop (I:=λa=>∃j:Nat,a=[.i (de (fp m s++(m.st s).take j)),.i j]/\j<=(m.st s).length/\∀(t:Nat)(ht:t< (m.st s).length),t<j->kl (m.st s)[t].key=s) (mu:=gX ((m.st s).length))
  ⟨0,by rw[IE,gd];rfl,om,λt ht h=>by omega⟩ ?_
 rintro a ⟨j,rfl,f1,f2⟩;refine cz (λhc=>?_) (λhc=>?_);rotate_left
 .refine bm ⟨⟨hx,λx hx=>?_⟩,?_⟩
  .obtain⟨t,ht,rfl⟩:=kL hx;exact f2 t ht om
  .rw[so,eP om];rfl
 have hj:j< (m.st s).length:=om;refine dx bu j hj ?_;refine bR (ayl _) ?_;refine cD rfl (λhq=>bm (no s hs λh=>hq (h.2 _ (cV hj)))) λhq=>?_
 refine bz (aCw (m.st s)[j]) ?_;have g3:=pL (fp m s++(m.st s).take j);have g4:(fp m s++(m.st s).take j).length<=72:=by rw[cw,dH];omega
 have g5:=Cn (m.st s)[j].size;have g6:de (fp m s++(m.st s).take j)+dq (m.st s)[j].size=de (fp m s++(m.st s).take (j+1)):=by
  rw[fT hj,<-dr,xc (fp m s++(m.st s).take j)];simp[de]
 refine fg (de (fp m s++(m.st s).take (j+1))) g6 ?_;refine cj j ?_;refine bm ⟨⟨j+1,rfl,om,λt ht hlt=>?_⟩,?_⟩
 .by_cases e:t=j
  .subst e;omega
  .exact f2 t ht om
 .show(m.st s).length- ((j+1:Nat):Int).toNat< (m.st s).length-j;omega
def axA(n:Nat)(j:n<=1000):E4 [.i n]=some []:=by
 have:∃o,Fo aaJ [.i (n:Int)]=some o/\∃x:L,o=[x]:=by
  refine kT ?_;refine dC [] ?_ ?_
  .refine uR ?_;exact bT rfl om (bm rfl)
  refine bO (λxs=>∃x:L,xs=[x]) ?_ (by rintro _ ⟨x,rfl⟩;exact bm ⟨x,rfl⟩);refine nM (n:=(n:Int)) (by show(n:Int) -0=n;omega) om om (uR ?_);refine cD rfl (λc=>?_) (λc=>bm ⟨_,rfl⟩);refine lK ⟨by show(0:Int)<=0;omega,om,fu _,rfl⟩ (nW ?_);refine tE (r:=(List.replicate n (⟨0,0,0,0⟩:It)).map bu) ⟨by show(0:Int)<=n;omega,by show(n:Int)<=_;omega,by show 32*((n:Int)).toNat<=_;omega⟩ (by rw[C5];rfl) (nW ?_);refine eR bu 0 (l:=List.replicate n (⟨0,0,0,0⟩:It)) (by rw[qW];omega) ?_;refine eI (r:=(List.replicate n (⟨0,0,0,0⟩:It)).map bu) rfl (gD _) py (by show((List.replicate n (⟨0,0,0,0⟩:It)).map bu).length<=_;rw[bA,qW];omega) om rfl (uR ?_);refine lK ⟨by show(0:Int)<=0;omega,om,fu _,kQ (gD _)⟩ (nW ?_);exact bm ⟨_,rfl⟩
 obtain⟨o,d,x,rfl⟩:=this;have h:Cc.F [.i (n:Int)]=some [x]:=d;unfold E4;simp only[h];rfl
def R_(m:Mp):List (List PV):=(List.range 8).map λs=>[.sl ((m.st s).map bu)]
def aiW{m}(h:WM m):LY [.r (R_ m)]=some [.r ((cat m).map bu)]:=by
 refine bJ ?_;have hl8:(R_ m).length=8:=rfl;have acf:(List.range 8).length=8:=rfl;refine bO (λxs=>xs=[.i (cat m).length]) ?_ ?_
 .refine uR ?_;refine wp_loop (I:=λa=>∃s:Nat,a=[.i (fp m s).length,.i s]/\s<=8) (mu:=gX 8) ⟨0,rfl,om⟩ ?_;rintro a ⟨s,rfl,e1⟩;have g2:=wH h s;have g3:=h.hn s;refine cz (λhc=>?_) (λhc=>?_);rotate_left
  .obtain rfl:s=8:=om;exact bm rfl
  have hs:s<8:=om;refine bO (λxs=>xs=[.i (fp m (s+1)).length]) ?_ ?_
  .refine dx (λs=>[PV.sl ((m.st s).map bu)]) s (l:=List.range 8) (by rw[acf];exact hs) ?_;rw[acU,bA];refine iU (n:=((fp m (s+1)).length:Nat)) (by rw[so,cw];rfl) om (by rw[so,cw];omega) (uR ?_);exact bT rfl om (bm rfl)
  .rintro _ rfl;refine nW ?_;refine cj s ?_;exact bm ⟨⟨s+1,rfl,om⟩,dy 8 s⟩
 .rintro _ rfl;have g4:=AL h;refine nW ?_;refine bz (axA (cat m).length om) ?_;refine bO (λxs=>xs=[.r ((cat m).map bu)]) ?_ (by rintro _ rfl;exact bm rfl);refine uR ?_;refine wp_loop (I:=λa=>∃s:Nat,a=[.i s,.r ((fp m s).map bu)]/\s<=8) (mu:=cN 8) ⟨0,rfl,om⟩ ?_;rintro a ⟨s,rfl,e1⟩;have g2:=wH h s;have g3:=h.hn s;refine cz (λhc=>?_) (λhc=>?_);rotate_left
  .obtain rfl:s=8:=om;exact bm rfl
  have hs:s<8:=om;refine dx (λs=>[PV.sl ((m.st s).map bu)]) s (l:=List.range 8) (by rw[acf];exact hs) ?_;rw[acU];refine eI (r:=(fp m (s+1)).map bu) (gD _) (gD _) (by show((fp m s).map bu).length<=_;rw[bA];omega) (by show((m.st s).map bu).length<=_;rw[bA];omega) om (by rw[so,dU];rfl) (nW ?_);refine cj s ?_;exact bm ⟨⟨s+1,rfl,om⟩,dy 8 s⟩
def K9{m}(h:WM m)(c:MV m):B6 (g_ m)=some [.r ((items m).map bu)]:=by
 refine bJ ?_;refine bR (J2 h (kx c)) ?_;refine cu (uR ?_);refine bz (aiW h) ?_;exact du (asX (cat m) (E6 c.1) (AL h)) rfl rfl (bm rfl)
def aDL{m}(h:WM m)(c:MV m):M1 (g_ m)=some [.i (items m).length]:=by
 refine bJ ?_;refine bR (K9 h c) ?_;rw[bA];exact bm rfl
def i4(x:It):I4:=(x.key,x.cookie,x.off,x.size)
def tI(x:I4):It:=⟨x.1,x.2.1,x.2.2.1,x.2.2.2⟩
def UH:∀l:List It,xM (l.map bu)=some (l.map i4)
 |[]=>rfl
 |x::l=>by
  show(match EX (bu x),xM (l.map bu)with
   |some x,some xs=>some (x::xs)
   |_,_=>none)=_
  rw[UH l];rfl
def aqG(l)(p:l.length<=1048576):∃d:List It,xD [.r (l.map bu)]=some [.r (d.map bu)]/\d.Perm l/\d.Pairwise λa b=>a.off<=b.off:=by
 obtain⟨q,r⟩:=Wz (l.map i4);refine⟨(oV (l.map i4)).map tI,?_,?_,?_⟩
 .unfold xD;simp only[UH];rw[bB (by rw[bA];exact p),gW];rfl
 .have:=q.map tI;rw[gW,show tI∘i4=id from rfl,Iy]at this;exact this
 .refine lM.2 λi j m o c=>?_
  rw[bA]at m o;rw[QL,QL];exact r i j _ _ c (db m) (db o)
def alL(l:List It)(hl:l.length<=1000)(dQ:∀x∈l,ff x=true){size}(CO:16<=size){b}(hb:b=true↔(l.Pairwise Clear/\∀x∈l,ends x<=size)):∃y,Ll [.r (l.map bu),.i size]=some [.b b,y]:=by
 obtain⟨d,h1,hp,hso⟩:=aqG l om;rw[<-agC dQ hp hso size CO]at hb;have kH:=hp.length_eq;have dQ:∀x∈d,ff x=true:=λx hx=>dQ x (hp.mem_iff.1 hx)
 refine⟨.r (d.map bu),bJ ?_⟩;refine bz h1 ?_;refine bO (λxs=>∃e:Int,xs=[.i e]/\nZ 16 d=some e) ?_ ?_;rotate_left
 .rintro _ ⟨e,rfl,he⟩;refine uR ?_;refine bm ?_;show[L.b (decide (e<=size)),L.r (d.map bu)]=_;by_cases hq:e<=size
  .rw[decide_eq_true hq,hb.2 ⟨e,he,hq⟩]
  .rw[decide_eq_false hq,gZ hb λ⟨r,h1,h2⟩=>by rw[he]at h1;cases h1;exact hq h2]
 refine uR ?_;rw[bA];refine wp_loop (I:=λa=>∃(i:Nat)(e:Int),a=[.i e,.i i]/\i<=d.length/\0<=e/\e<=2000000/\nZ 16 d=nZ e (d.drop i)) (mu:=gX d.length) ⟨0,16,rfl,om,om,om,rfl⟩ ?_;rintro a ⟨i,e,rfl,e1,e2,e3,e4⟩;refine cz (λhc=>?_) (λhc=>?_);rotate_left
 .rw[sJ om]at e4;exact bm ⟨e,rfl,e4⟩
 have hi:i<d.length:=om;obtain⟨k1,k2,k3,k4⟩:=Un dQ hi;rw[uk hi]at e4;simp only[nZ]at e4;refine kz (l:=d) (j:=i) rfl rfl hi (uR ?_);refine cD rfl (λhq=>?_) (λhq=>?_)
 .rw[bB hq]at e4;refine bm ?_;show[L.b false,L.r (d.map bu)]=_;rw[gZ hb λ⟨r,h1,h2⟩=>by rw[e4]at h1;cases h1]
 .rw[bG hq]at e4;refine bz (Aq d[i].size) ?_;refine iU (n:=ends d[i]) rfl (by unfold ends;omega) (by unfold ends;omega) (nW ?_);refine cj i ?_;exact bm ⟨⟨i+1,ends d[i],rfl,om,by unfold ends;omega,by unfold ends;omega,e4⟩,dy d.length i⟩
def ZY{g}(h:WM g.map){b}(m:b=true↔GV g):Cu (gz g)=some [.b b]:=by
 refine bJ ?_;refine bO (dp (¬yi g)) (by unfold yi;exact cB) ?_;rintro _ ⟨t,rfl,o⟩;refine nW ?_;refine jL rfl o (λj=>bm (oP m λc=>j c.1)) λj=>?_
 have j:yi g:=qX j;refine bO (dp (¬AF g)) ?_ ?_
 .refine uR ?_;refine cD rfl (λd=>bm (er λc=>by have:=c.1;omega)) λd=>?_
  refine uR ?_;refine cD rfl (λr=>bm (er λc=>by have:=c.1;omega)) λr=>?_
  refine dw (l:=.i (g.size%8)) (by
   show(if(8:Int)≠0 then some (L.i (g.size.tmod 8))else none)=_;rw[bB dc,acJ om]) (uR ?_)
  refine cD rfl (λp=>bm (er λc=>by have:=c.1;omega)) λp=>?_
  obtain⟨v,c⟩:=fA (MV g.map);refine bR (J2 h c) ?_;refine bm ?_;refine⟨!v,rfl,?_⟩
  cases v with
  |true=>exact K0 λh=>h ⟨⟨om,om,om⟩,c.1 rfl⟩
  |false=>exact kx λh=>by have:=c.2 h.2;cases this
 rintro _ ⟨t,rfl,o⟩;refine nW ?_;refine jL rfl o (λd=>bm (oP m λc=>d ⟨c.2.1,c.2.2.1⟩)) λd=>?_
 have d:AF g:=qX d;have r:=aaS h d.2;have p:=d.1;have x:=d.2.2;refine bO (dp (Ao g/\g.size=16+g.map.live+g.map.dW)) ?_ (rB (m.trans ⟨λc=>c.2.2.2,λc=>⟨j,d.1,d.2,c⟩⟩));obtain⟨v,c⟩:=fA (Ao g);obtain⟨y,u⟩:=alL (items g.map) (by have:=GX h;omega) (YX d.2.1) p.1 c;refine bz (K9 h d.2) ?_;refine bz u ?_;refine jL rfl c (λq=>?_) λq=>bm (fF λh=>q h.1)
 refine fg (16+g.map.live) rfl ?_;refine iU (n:=16+g.map.live+g.map.dW) rfl om om (uR ?_);refine bm (fK ⟨λh=>⟨q,h⟩,λh=>h.2⟩)
def aoc{id limit ro gens}(hw:∀g∈gens,WM g.map)(hn:gens.length<=1000000){b}(hb:b=true↔Yy id limit gens):vg [.i id,.i limit,ro,.r (gens.map yc)]=some [.b b]:=by
 refine bJ ?_;refine bO (dp (¬((0<=id/\id<4)/\(4136<=limit/\limit<=262144)))) ?_ ?_
 .refine uR ?_;refine cD rfl (λh2=>bm (er om)) λh2=>?_
  refine uR ?_;refine cD rfl (λh2=>bm (er om)) λh2=>?_
  refine bz (Aq 4096) ?_;refine fg 4136 rfl ?_;exact cB
 rintro _ ⟨t,rfl,ht⟩;refine nW ?_;refine jL rfl ht (λh1=>bm (oP hb λhv=>h1 ⟨hv.1.1,hv.1.2.1⟩)) λh1=>?_
 refine bO (dp (¬(1<=gens.length/\gens.length<=8))) ?_ ?_
 .refine uR ?_;rw[bA];refine cD rfl (λh2=>bm (er om)) λh2=>uR ?_
  rw[bA];exact bm (fK om)
 rintro _ ⟨t,rfl,ht⟩;refine nW ?_;refine jL rfl ht (λh2=>bm (oP hb λhv=>h2 hv.1.2.2)) λh2=>?_
 have h1:JH id limit gens:=by unfold JH;omega
 have pT:gens.length-1<gens.length:=om;refine bO (λxs=>xs=[]/\∀i,i<gens.length->GG limit gens i) ?_ ?_;rotate_left
 .rintro _ ⟨rfl,hall⟩;have hg:=hw _ (cV pT);have q1:=(hall _ pT pT).1;have q2:=q1.2.1;have q3:=GX hg;refine uR ?_;rw[bA];refine eb (((gens.length-1:Nat):Int)) (by show(gens.length:Int) -1=_;omega) ?_;refine dx yc (gens.length-1) pT ?_;refine bz (aDL hg q1.2.2.1) ?_;refine bz (Aq 0) ?_;refine mR ((items gens[gens.length-1].map).length*24) rfl ?_;refine fg (gens[gens.length-1].size+(items gens[gens.length-1].map).length*24) rfl ?_;refine rU (n:=2*limit) rfl om om (uR ?_);refine bm ?_;by_cases hq:gens[gens.length-1].size+(items gens[gens.length-1].map).length*24<=2*limit
  .exact(dT hq).trans (Oo hb ⟨h1,hall,λ_=>om⟩)
  .exact(dF hq).trans (oP hb λhv=>hq (by have:=hv.2.2 pT;omega))
 refine uR ?_;rw[bA];refine wp_loop (I:=λa=>∃i:Nat,a=[.i i]/\i<=gens.length/\∀j,j<i->GG limit gens j) (mu:=cN gens.length) ⟨0,rfl,om,λj hj=>by omega⟩ ?_;rintro a ⟨i,rfl,e1,e2⟩;refine uR ?_;refine cD rfl (λhc=>?_) (λhc=>bm ⟨rfl,λj hj=>e2 j om⟩);have hi:i<gens.length:=om;have hg:=hw _ (cV hi);refine dx yc i hi ?_;rw[bA];refine nM (n:=((gens.length-1:Nat):Int)) (by show(gens.length:Int) -1=_;omega) om om (uR ?_);refine bO (dp (¬GG limit gens i)) ?_ ?_
 .obtain⟨v,hv⟩:=fA (GV gens[i]);refine bR (ZY hg hv) ?_;refine tw rfl hv (λh2=>bm (er λh=>h2 (h hi).1)) λh2=>?_
  have hm:(decide (gens[i].mode=1) !=decide ((i:Int)=((gens.length-1:Nat):Int)))=true↔¬(gens[i].mode=1↔i=gens.length-1):=by
   rw[bne_iff_ne,ne_eq,decide_eq_decide,Int.ofNat_inj]
  refine uR ?_;refine cD rfl (λh4=>?_) λh4=>?_
  .have jc:i-1<gens.length:=om;refine eb (((i-1:Nat):Int)) (by show(i:Int) -1=_;omega) ?_;refine dx yc (i-1) jc ?_;refine cD rfl (λh5=>bm (er λh=>by have:=(h hi).2.2.1 om;omega)) λh5=>uR ?_
   refine jL rfl hm (λh3=>bm (er λh=>h3 (h hi).2.1)) λh3=>?_
   refine rU (n:=2*limit) rfl om om (uR ?_);refine bm (fK ⟨λh6 h=>by have:=(h hi).2.2.2;omega,λh=>qX λh6=>h λ_=>⟨h2,jr.1 h3,λ_=>om,om⟩⟩)
  .refine uR ?_;refine jL rfl hm (λh3=>bm (er λh=>h3 (h hi).2.1)) λh3=>?_
   refine rU (n:=2*limit) rfl om om (uR ?_);refine bm (fK ⟨λh6 h=>by have:=(h hi).2.2.2;omega,λh=>qX λh6=>h λ_=>⟨h2,jr.1 h3,λ_=>om,om⟩⟩)
 .rintro _ ⟨t,rfl,ht⟩;refine nW ?_;refine jL rfl ht (λg=>bm (oP hb λhv=>g (hv.2.1 i hi))) λg=>?_
  refine cj i ?_;refine bm ⟨⟨i+1,rfl,om,λj hj=>?_⟩,?_⟩
  .by_cases e:j=i
   .subst e;exact jr.1 g
   .exact e2 j om
  .show gens.length- ((i+1:Nat):Int).toNat<gens.length-i;omega
def adf(gs:List Ge):(gs.map Ge.gn).map yc=gs.map gR:=by rw[gW];rfl
def NZ{gs:List Ge}{i:Nat}(h:i<gs.length)(c:i< (gs.map Ge.gn).length):(gs.map Ge.gn)[i]=gs[i].gn:=QL _
def avB{gs}(h:ec gs):Yy 1 9000 (gs.map Ge.gn)/\∀g∈gs.map Ge.gn,WM g.map:=by
 have o:=h.n1;have p:=h.n8;have q:(gs.map Ge.gn).length=gs.length:=bA _;refine⟨⟨⟨om,om,om⟩,λi j l=>?_,λj=>?_⟩,λg d=>?_⟩
 .have c:i<gs.length:=om;have d:=h.ok i c;rw[NZ c l,q];refine⟨d.1.gv,d.2.2,λt=>?_,?_⟩
  .have m:=h.ok (i-1) om;rw[NZ (show i-1<gs.length by omega) om,Ge.num,Ge.num,d.2.1,m.2.1];omega
  .have:=d.1.sz;show gs[i].size<=_;omega
 .have c:(gs.map Ge.gn).length-1<gs.length:=om;have d:=h.ok _ c;rw[NZ c j];have u:=d.1.sz;have v:=d.1.s.len;show gs[(gs.map Ge.gn).length-1].size+24*(items (gu gs[(gs.map Ge.gn).length-1].l gs[(gs.map Ge.gn).length-1].dW)).length<=_;rw[yv d.1.s.v];omega
 .obtain⟨e,r,rfl⟩:=gg.1 d;obtain⟨i,j,rfl⟩:=kL r;exact(h.ok i j).1.mb.wm
def DJ{gs}(h:ec gs):vg (sA gs)=some [.b true]:=by
 have c:=avB h;have:=aoc (ro:=.b false) c.2 (by rw[bA];have:=h.n8;omega) (kx c.1)
 rwa [adf]at this
def aDd{l g}(h:Mb l g):JA (g_ (gu l g))=some (oi l):=by
 have hl:=h.s.len;have cli:∀s,mc [.r ((dY l s).map bu)]=some []:=λs=>bB ⟨gD _,by
  have h1:=Hu l s;rw[bA];omega⟩
 refine bJ ?_;refine ew (oi l) ?_;refine wp_loop (I:=λa=>∃k:Nat,a=.i k::oi l/\k<=8) (mu:=cN 8) ⟨0,rfl,om⟩ ?_;rintro a ⟨k,rfl,e1⟩;refine cz (λhc=>?_) (λhc=>?_);rotate_left
 .exact bm rfl
 have hk:k<8:=om;refine bO (λxs=>xs=.i k::oi l) ?_ ?_;rotate_left
 .rintro _ rfl;refine nW ?_;refine cj k ?_;exact bm ⟨⟨k+1,rfl,om⟩,dy 8 k⟩
 refine nH ⟨by show(0:Int)<=k;omega,by show(k:Int)< (8:Nat);omega⟩ (nW ?_);refine vG (m:=gu l g) hk rfl rfl (nW ?_);refine bz (cli k) ?_;have h8:k=0\/k=1\/k=2\/k=3\/k=4\/k=5\/k=6\/k=7:=om;rcases h8 with rfl|rfl|rfl|rfl|rfl|rfl|rfl|rfl<;>
  (repeat (first| (refine c9 rfl dc ?_)| (refine bT rfl dc ?_)| (refine sT rfl ?_;try dsimp only[At.ev,d1,d2,d3,d4,d5,d6,d7,d8,d9,e0,List.map,cZ,Kd.pv])))<;>exact bm rfl
def kM(a b:Int):L:=.c [.sc (.int .i64 a),.sc (.int .i64 b)]
theorem R7(a b:Int):MH [.i a,.i b]=some [kM a b]:=rfl
def avT{a b:Int}(c:a.natAbs<9007199254740992)(d:b.natAbs<9007199254740992):aaQ [kM a b,kM 0 0]=some [kM a b]:=by
 show(if _ then _ else _)=_;rw[bB ⟨⟨c,dc,by show(a+0).natAbs<_;rw[IF];exact c⟩,d,dc,by show(b+0).natAbs<_;rw[IF];exact d⟩];show some [L.c [.sc (.int .i64 (a+0)),.sc (.int .i64 (b+0))]]=_;rw[IF,IF];rfl
def aan{a:Int}(c:a.natAbs<9007199254740992):NU [.i a]=some [.i a]:=bB c
def RD{l g}(h:Mb l g):FZ (g_ (gu l g)++[.i 0])=some (g_ (gu l g)):=by
 have j:=pL l;have o:=h.s.len;have p:=h.h0;have q:=h.h1;have c:(de l).natAbs<9007199254740992:=om;have d:g.natAbs<9007199254740992:=om;refine bJ ?_;refine bz (aDd h) ?_;refine dC [.b false] ?_ ?_
 .refine bR (J2 (m:=gu l g) h.wm (kx h.mv)) ?_;refine cu (uR ?_);refine bT rfl (by show¬(0:Int)<0;omega) ?_;refine nM (n:=1099511627776-g) rfl om om (uR ?_);exact bm (dF (by show¬(0:Int)>1099511627776-g;omega))
 refine cu ?_;refine bz (l:=[kM (de l) g]) ?_ ?_
 .refine bJ ?_;refine bz (R7 _ _) ?_;exact bm rfl
 refine bz (R7 _ _) ?_;refine bz (avT c d) ?_;refine bz (l:=[.i (de l),.i g]) ?_ ?_
 .refine bJ ?_;refine bz (l:=[.i (de l)]) rfl ?_;refine bz (aan c) ?_;refine bz (l:=[.i g]) rfl ?_;refine bz (aan d) ?_;exact bm rfl
 exact bm rfl
def aqM{e}(h:fZ e):Cu (gz e.gn)=some [.b true]:=ZY (g:=e.gn) h.mb.wm (kx h.gv)
def aBr{e}(h:fZ e)(c:e.mode=2):MF (gz e.gn)=some (.i 0::gz (fY e).gn):=by
 refine bJ ?_;refine bz (l:=.i 0::gz (fY e).gn) ?_ ?_
 .refine bJ ?_;refine bR (aqM h) ?_;refine cu (uR ?_);refine bT rfl (λh=>h c) ?_;refine fg 3 (by show e.mode+1=3;omega) ?_;refine bz (RD h.mb) ?_;exact bm rfl
 exact bm rfl
def YM{e}(h:fZ e):Es (gz e.gn)=some (g_ e.gn.map):=by
 refine bJ ?_;refine bz (RD h.mb) ?_;exact bm rfl
def aiA{gs}(h:ec gs):KS (sA gs)=some [.r (gs.map gR)]:=by
 have hl:=h.n8;refine bJ ?_;refine bz (l:=[]) (show D1 [.r (gs.map gR)]=some []from bB ⟨tL _,by rw[bA];omega⟩) ?_;refine ew [.r (gs.map gR)] ?_;refine uR ?_;rw[bA];refine wp_loop (I:=λa=>∃i:Nat,a=[.i i,.r (gs.map gR)]/\i<=gs.length) (mu:=cN gs.length) ⟨0,rfl,om⟩ ?_;rintro a ⟨i,rfl,g1⟩;refine cz (λhc=>?_) (λhc=>?_);rotate_left
 .exact bm rfl
 have hi:i<gs.length:=om;refine eR gR i hi ?_;refine dP gR i hi ?_;refine dP gR i hi ?_;refine dP gR i hi ?_;refine dP gR i hi ?_;refine dP gR i hi ?_;refine dP gR i hi ?_;refine dP gR i hi ?_;refine dP gR i hi ?_;refine dP gR i hi ?_;refine dP gR i hi ?_;refine dP gR i hi ?_;refine dP gR i hi ?_;refine dP gR i hi ?_;refine dP gR i hi ?_;refine bz (YM (h.ok i hi).1) ?_;refine eR gR i hi ?_;refine mQ (f:=gR) (l:=gs) (n:=i) rfl rfl hi (by show(14:Nat)<=14;omega) rfl (nW ?_);refine cj i ?_;exact bm ⟨⟨i+1,rfl,om⟩,dy gs.length i⟩
def awY{gs}(h:ec gs){e:Ge}(hn:e.n<gs.length):Oh (.r (gs.map gR)::gz e.gn)=some [.i e.n]:=by
 have Im:=h.n8;refine bJ ?_;refine bO (λxs=>False) ?_ (by rintro _ h;cases h);refine uR ?_;rw[bA];refine wp_loop (I:=λa=>∃j:Nat,a=[.i j]/\j<=e.n) (mu:=cN gs.length) ⟨0,rfl,om⟩ ?_;rintro a ⟨j,rfl,e1⟩;have hj:j<gs.length:=om;have CT:=(h.ok j hj).2.1;refine uR ?_;refine c9 rfl om ?_;refine dx gR j hj ?_;have aFQ:Jg (gz gs[j].gn++gz e.gn)=some [.b (decide (gs[j].gn.num=e.gn.num))]:=rfl;refine bz aFQ ?_;refine jL rfl decide_eq_true_iff (λhq=>?_) λhq=>?_
 .rw[Ge.num,Ge.num,CT]at hq;obtain rfl:j=e.n:=om;exact bm rfl
 .rw[Ge.num,Ge.num,CT]at hq;refine cj j ?_;exact bm ⟨⟨j+1,rfl,om⟩,dy gs.length j⟩
def akE{gs}(h:ec gs){e:Ge}(c:e.n<gs.length)(d:fZ e)(m:ec (gs.set e.n e)):UD (sA gs++gz e.gn)=some (.i 0::sA (gs.set e.n e)):=by
 refine bJ (f:=Uo) ?_;refine bR (DJ h) ?_;refine cu ?_;refine bR (awY h c) ?_;refine bT rfl om ?_;refine bz (aiA h) ?_;refine bz (YM d) ?_;refine eR gR e.n c ?_;refine sh (f:=gR) (l:=gs) (j:=e.n) (v:=e) rfl rfl c rfl rfl (nW ?_);refine bR (DJ m) ?_;refine cu ?_;exact bm rfl
section
variable{a0 a1 a2 a3 a4 a5 a7 a9 CU CV a12 Qb Qc Qd Qe a17 Qf Qg a20 a21:L}
def akc{gs}(h:ec gs){i:Nat}(hi:i<gs.length):Pb [.r (gs.map gR),a0,a1,a2,a3,a4,a5,.r (gs.map gR),a7,.i (i+1:Nat),a9,CU,CV,a12,Qb,Qc,Qd,Qe,a17,Qf,Qg,a20,a21]=some [.i i]:=by
 have Im:=h.n8;refine bJ ?_;refine bO (λxs=>False) ?_ (by rintro _ h;cases h);refine uR ?_;rw[bA];refine wp_loop (I:=λa=>∃j:Nat,a=[.i j]/\j<=i) (mu:=cN gs.length) ⟨0,rfl,om⟩ ?_;rintro a ⟨j,rfl,e1⟩;have hj:j<gs.length:=om;have CT:=(h.ok j hj).2.1;refine uR ?_;refine c9 rfl om ?_;refine dx gR j hj ?_;have aFR:Mk (gz gs[j].gn++[a0,a1,a2,a3,a4,a5,.r (gs.map gR),a7,.i (i+1:Nat),a9,CU,CV,a12,Qb,Qc,Qd,Qe,a17,Qf,Qg,a20,a21])=some [.b (decide (gs[j].gn.num=((i+1:Nat):Int)))]:=rfl;refine bz aFR ?_;refine jL rfl decide_eq_true_iff (λhq=>?_) λhq=>?_
 .rw[Ge.num,CT]at hq;obtain rfl:j=i:=om;exact bm rfl
 .rw[Ge.num,CT]at hq;refine cj j ?_;exact bm ⟨⟨j+1,rfl,om⟩,dy gs.length j⟩
def EU{gs}(h:ec gs){i:Nat}(c:i<gs.length):Ca [a0,a1,a2,a3,a4,a5,.r (gs.map gR),a7,.i (i+1:Nat),a9,CU,CV,a12,Qb,Qc,Qd,Qe,a17,Qf,Qg,a20,a21]=some [.i i]:=by
 refine bJ ?_;refine bz (akc h c) ?_;exact bm rfl
end
def aBg{gs}(hl:gs.length<=8){i:Nat}(hi:i<gs.length)(hm:gs[i].mode=2)(hb:∀j(h:j<i),(gs[j]'om).mode≠2):zW (sA gs)=some (.b true::gz gs[i].gn):=by
 refine bJ ?_;refine bO (λxs=>False) ?_ (by rintro _ h;cases h);refine uR ?_;rw[bA];refine wp_loop (I:=λa=>∃j:Nat,a=[.i j]/\j<=i) (mu:=cN gs.length) ⟨0,rfl,om⟩ ?_;rintro a ⟨j,rfl,e1⟩;have hj:j<gs.length:=om;refine uR ?_;refine c9 rfl om ?_;refine dx gR j hj ?_;refine cD rfl (λhq=>?_) λhq=>?_
 .have hq:gs[j].mode=2:=hq;obtain rfl:j=i:=by
   rcases nw j i with q|q
   .exact absurd hq (hb j q)
   .omega
  exact bm rfl
 .have hq:¬gs[j].mode=2:=hq;have hne:j≠i:=λe=>by subst e;exact hq hm
  refine cj j ?_;exact bm ⟨⟨j+1,rfl,om⟩,dy gs.length j⟩
def akR{gs}(hl:gs.length<=8)(hb:∀j(h:j<gs.length),gs[j].mode≠2):zW (sA gs)=some [.b false,.i 0,.i 0,.i 0,.i 0,.r [],.r [],.r [],.r [],.r [],.r [],.r [],.r [],.i 0,.i 0]:=by
 refine bJ ?_;refine ew [] ?_;refine uR ?_;rw[bA];refine wp_loop (I:=λa=>∃j:Nat,a=[.i j]/\j<=gs.length) (mu:=cN gs.length) ⟨0,rfl,om⟩ ?_;rintro a ⟨j,rfl,e1⟩;refine cz (λhc=>?_) (λhc=>?_);rotate_left
 .exact bm rfl
 have hj:j<gs.length:=om;refine dx gR j hj ?_;refine bT rfl (hb j hj) ?_;refine cj j ?_;exact bm ⟨⟨j+1,rfl,om⟩,dy gs.length j⟩
structure Hx where
 x0:L
 x1:L
 x2:L
 x3:L
 c0:L
 c1:L
 c2:L
 c3:L
 c4:L
 c5:L
 it:List It
 da:List (List Nat)
abbrev fx(R:List (List PV))(gs:List Ge)(s g k:Int)(h:Hx):List L:=[.i 0,.i (-1),.r R,.i 1,.i 9000,.b false,.r (gs.map gR),.i s,.i g,.i k,h.x0,h.x1,h.x2,h.x3,h.c0,h.c1,h.c2,h.c3,h.c4,h.c5,.r (h.it.map bu),.r (h.da.map fR)]
section
variable{R R':List (List PV)}{gs:List Ge}{s g k:Int}{h:Hx}{n:Nat}
def xA{x y z:L}:qG (fx R gs s g k h++[x,y,z,.i 0])=some [x,y,z]:=by
 refine bJ ?_;refine ew [x,y,z] ?_;refine uR ?_;refine c9 rfl rfl ?_;exact bm rfl
def ado:o4 (fx R gs 2 g k h)=some [.i 3,.i k]:=by
 refine gp ?_;refine bT rfl dc (uR ?_);refine bT rfl dc ?_;refine fg 3 rfl ?_;exact bm rfl
def avS:o4 (fx R gs 3 g k h)=some [.i 4,.i k]:=by
 refine gp ?_;refine bT rfl dc (uR ?_);refine bT rfl dc ?_;refine fg 4 rfl ?_;exact bm rfl
def azm:o4 (fx R gs 4 g k h)=some [.i 5,.i k]:=by
 refine gp ?_;refine bT rfl dc (uR ?_);refine bT rfl dc ?_;refine fg 5 rfl ?_;exact bm rfl
def arf(c:n<6):o4 (fx R gs 5 g (n:Int) h)=some [.i 2,.i ((n+1:Nat):Int)]:=by
 refine gp ?_;refine c9 rfl rfl ?_;refine Ck n ?_;refine bT rfl om ?_;exact bm rfl
def aiG:o4 (fx R gs 5 g 6 h)=some [.i 6,.i 0]:=by
 refine gp ?_;refine c9 rfl rfl ?_;refine iU (n:=7) rfl om om (uR ?_);refine c9 rfl rfl ?_;exact bm rfl
def auW(c:n<5):o4 (fx R gs 6 g (n:Int) h)=some [.i 6,.i ((n+1:Nat):Int)]:=by
 refine gp ?_;refine bT rfl dc (uR ?_);refine c9 rfl rfl ?_;refine Ck n ?_;refine bT rfl om ?_;exact bm rfl
def aog:o4 (fx R gs 6 g 5 h)=some [.i 7,.i 6]:=by
 refine gp ?_;refine bT rfl dc (uR ?_);refine c9 rfl rfl ?_;refine iU (n:=6) rfl om om (uR ?_);refine c9 rfl rfl ?_;exact bm rfl
def Bs(c:s=2\/s=3\/s=4\/s=5)(d:n<7):vv (fx R gs s g (n:Int) h)=some [.b true]:=by
 refine bJ ?_;refine dC [.b true] ?_ ?_
 .rcases c with rfl|rfl|rfl|rfl<;>
   (repeat (first| (refine c9 rfl dc ?_)| (refine bT rfl dc ?_)| (refine sT rfl ?_;try dsimp only[At.ev,d1,d2,d3,d4,d5,d6,d7,d8,d9,e0,List.map,cZ,Kd.pv])))<;>exact bm rfl
 refine gY ?_;refine ew [.b true] ?_;refine uR ?_;refine c9 rfl om (uR ?_);exact bm (dT om)
def Wb(c:n<6):vv (fx R gs 6 g (n:Int) h)=some [.b true]:=by
 refine bJ ?_;refine dC [.b false] ?_ ?_
 . (repeat (first| (refine c9 rfl dc ?_)| (refine bT rfl dc ?_)| (refine sT rfl ?_;try dsimp only[At.ev,d1,d2,d3,d4,d5,d6,d7,d8,d9,e0,List.map,cZ,Kd.pv])))
   exact bm rfl
 refine cu (uR ?_);refine c9 rfl rfl ?_;refine ew [.b true] ?_;refine uR ?_;refine c9 rfl om (uR ?_);exact bm (dT om)
def RN(c:s=7\/s=8):vv (fx R gs s g k h)=some [.b true]:=by
 refine bJ ?_;refine dC [.b false] ?_ ?_
 .rcases c with rfl|rfl<;>
   (repeat (first| (refine c9 rfl dc ?_)| (refine bT rfl dc ?_)| (refine sT rfl ?_;try dsimp only[At.ev,d1,d2,d3,d4,d5,d6,d7,d8,d9,e0,List.map,cZ,Kd.pv])))<;>exact bm rfl
 refine cu (uR ?_);refine bT rfl om ?_;exact bm rfl
end
section
variable{e:Fs}{gs:List Ge}{h:Hx}{n k:Nat}
def amA(c:dG e)(d:n<8)(j:k<7)(l:e (2*(9*n+(2+k))+1)=none):rW (fx ((dv e).map bK) gs 2 (n+1:Nat) k h)=some (.i 0::dA (dv e)):=by
 refine bJ ?_;refine bz (xi d j) ?_;refine ew [] ?_;refine uR ?_;refine c9 rfl rfl ?_;refine bz (alQ (jP c)) ?_;refine bz (aDE om l) ?_;refine cu ?_;exact bm rfl
def azV(c:dG e)(d:n<8)(j:k<7)(l:e (2*(9*n+(2+k))+1)=none):rW (fx ((dv e).map bK) gs 3 (n+1:Nat) k h)=some (.i 0::dA (dv (cq e (2*(9*n+(2+k))+1) (some [])))):=by
 refine bJ ?_;refine bz (xi d j) ?_;refine bO (λ_=>False) ?_ (by rintro _ h;cases h);refine uR ?_;refine bT rfl dc ?_;refine uR ?_;refine c9 rfl rfl ?_;refine bz (avm c om l) ?_;refine bz xA ?_;exact bm rfl
def azP(c:dG e)(d:n<8)(j:k<7)(l:e (2*(9*n+(2+k))+1)=some [])(m:k<h.da.length)(o:okB h.da[k]):rW (fx ((dv e).map bK) gs 4 (n+1:Nat) k h)=some [.i 0,.i 0,.i (-1),.r (Ds e (2*(9*n+(2+k))+1) h.da[k])]:=by
 refine bJ ?_;refine bz (xi d j) ?_;refine bO (λ_=>False) ?_ (by rintro _ h;cases h);refine uR ?_;refine bT rfl dc ?_;refine uR ?_;refine bT rfl dc ?_;refine uR ?_;refine c9 rfl rfl (uR ?_);rw[bA];refine bT rfl om ?_;refine dx fR k m ?_;refine bz (akm c om l o) ?_;refine bz xA ?_;exact bm rfl
def ajL(c:dG e)(d:n<8)(j:k<7){x:List Nat}(l:okB x):rW (fx ((lx e (2*(9*n+(2+k))+1) (lR (2*(9*n+(2+k))+1) x)).map bK) gs 5 (n+1:Nat) k h)=some (.i 0::dA (dv (cq e (2*(9*n+(2+k))+1) (some x)))):=by
 refine bJ ?_;refine bz (xi d j) ?_;refine bO (λ_=>False) ?_ (by rintro _ h;cases h);refine uR ?_;refine bT rfl dc ?_;refine uR ?_;refine bT rfl dc ?_;refine uR ?_;refine bT rfl dc ?_;refine uR ?_;refine c9 rfl rfl ?_;refine bz (axy c om l) ?_;refine bz xA ?_;exact bm rfl
def ajG(j:dG e)(c:n<8)(d:k<7){x:List Nat}(l:e (2*(9*n+(2+k))+1)=some x)(m:e (2*(9*n+(2+k)))=none):rW (fx ((dv e).map bK) gs 6 (n+1:Nat) k h)=some (.i 0::dA (dv (cq (cq e (2*(9*n+(2+k))+1) none) (2*(9*n+(2+k))) (some x)))):=by
 refine bJ ?_;refine bz (xi c d) ?_;refine bO (λ_=>False) ?_ (by rintro _ h;cases h);refine uR ?_;refine bT rfl dc ?_;refine uR ?_;refine bT rfl dc ?_;refine uR ?_;refine bT rfl dc ?_;refine uR ?_;refine bT rfl dc ?_;refine uR ?_;refine c9 rfl rfl ?_;refine bz (Tp c d) ?_;refine bz (WY j om l m) ?_;refine bz xA ?_;exact bm rfl
end
section
variable{R R':List (List PV)}{gs:List Ge}{h:Hx}{n:Nat}
def uU{s c k d:Int}(j:s≠1/\s≠7/\s≠8)(l:ec gs)(m:n<gs.length)(o:vv (fx R gs s (n+1:Nat) k h)=some [.b true])(p:rW (fx R gs s (n+1:Nat) k h)=some [.i 0,.i 0,.i (-1),.r R'])(q:o4 (fx R' gs s (n+1:Nat) k h)=some [.i c,.i d]):
 pA (fx R gs s (n+1:Nat) k h)=some (.r []::fx R' gs c (n+1:Nat) d h):=by
 refine gp ?_;refine bT rfl j.1 ?_;refine dC [] ?_ ?_
 .refine dC [.b false] ?_ ?_
  .refine bR (EU l m) ?_;refine bT rfl om ?_;refine bR o ?_;exact bm rfl
  refine cu ?_;exact bm rfl
 refine ew [.i 0,.i (-1),.r R',.i 1,.i 9000,.b false,.r (gs.map gR),.i c,.i d] ?_;refine uR ?_;refine bT rfl j.2.1 (uR ?_);refine bT rfl j.2.2 ?_;refine dC [.i 0,.i (-1),.r R'] ?_ ?_
 .refine bR p ?_;refine bT rfl (λh=>h rfl) ?_;exact bm rfl
 refine bz q ?_;exact bm rfl
def aho{e:Fs}(d:dG e)(c:ec gs)(j:n<gs.length){k:Int}{b}(m:e (2*(9*n))=some b):
 pA (fx ((dv e).map bK) gs 8 (n+1:Nat) k h)=some (.r [[.sc (.int .i64 (n+1:Nat)),.sc (.int .i64 0)]]::fx ((dv (cq e (2*(9*n)) none)).map bK) gs 0 0 0 ⟨.i 0,.i 0,.i 0,.i 0,.i 0,.i 0,.i 0,.i 0,.i 0,.i 0,[],[]⟩):=by
 have o:=c.n8;refine gp ?_;refine bT rfl dc ?_;refine dC [] ?_ ?_
 .refine dC [.b false] ?_ ?_
  .refine bR (EU c j) ?_;refine bT rfl om ?_;refine bR (RN (.inr rfl)) ?_;exact bm rfl
  refine cu ?_;exact bm rfl
 refine bO (λ_=>False) ?_ (by rintro _ h;cases h);refine uR ?_;refine bT rfl dc (uR ?_);refine c9 rfl rfl ?_;refine dC (dA (dv (cq e (2*(9*n)) none))) ?_ ?_
 .refine bz (Y0 om) ?_;refine bz (ayC d om m) ?_;refine bR xA ?_;refine bT rfl (λh=>h rfl) ?_;exact bm rfl
 refine bR (l:=[]) (show nQ []=some []from rfl) ?_;exact bm rfl
def auR{e:Fs}(q:dG e)(d:ec gs){i:Nat}(j:i<gs.length)(r:gs[i].mode=2)(t:fZ (fY gs[i]))(p:ec (gs.set i (fY gs[i]))){x:List Nat}(u:e (2*(9*i+(2+6))+1)=some x)(v:e (2*(9*i+(2+6)))=none):
 pA (fx ((dv e).map bK) gs 7 (i+1:Nat) 6 h)=some (.r []::fx ((dv (cq (cq e (2*(9*i+(2+6))+1) none) (2*(9*i+(2+6))) (some x))).map bK) (gs.set i (fY gs[i])) 8 (i+1:Nat) 6 h):=by
 have y:=d.n8;have l:=d.ok i j;have c:(fY gs[i]).n=i:=l.2.1;have m:=akE d (e:=fY gs[i]) (by rw[c];exact j) t (by rw[c];exact p);rw[c]at m;have o:Hs (fx ((dv e).map bK) gs 7 (i+1:Nat) 6 h)=some (.i 0::dA (dv (cq (cq e (2*(9*i+(2+6))+1) none) (2*(9*i+(2+6))) (some x)))++sA (gs.set i (fY gs[i]))):=by
  refine bJ ?_;refine bz (EU d j) ?_;refine dx gR i j ?_;refine bR (aBr l.1 r) ?_;refine bT rfl (λh=>h rfl) ?_;refine bR m ?_;refine bT rfl (λh=>h rfl) ?_;refine ew (.i 0::dA (dv (cq (cq e (2*(9*i+(2+6))+1) none) (2*(9*i+(2+6))) (some x)))++sA (gs.set i (fY gs[i]))) ?_;refine bz (xi (k:=6) (show i<8 by omega) dc) ?_;refine bz (Tp (k:=6) (show i<8 by omega) dc) ?_;refine bz (WY q om u v) ?_;refine bR xA ?_;refine c9 rfl rfl ?_;exact bm rfl
 refine gp ?_;refine bT rfl dc ?_;refine dC [] ?_ ?_
 .refine dC [.b false] ?_ ?_
  .refine bR (EU d j) ?_;refine bT rfl om ?_;refine bR (RN (.inl rfl)) ?_;exact bm rfl
  refine cu ?_;exact bm rfl
 refine ew (dA (dv (cq (cq e (2*(9*i+(2+6))+1) none) (2*(9*i+(2+6))) (some x)))++sA (gs.set i (fY gs[i]))++[.i 8,.i 6]) ?_;refine uR ?_;refine c9 rfl rfl ?_;refine ew (dA (dv (cq (cq e (2*(9*i+(2+6))+1) none) (2*(9*i+(2+6))) (some x)))++sA (gs.set i (fY gs[i]))) ?_;refine bR o ?_;refine bT rfl (λh=>h rfl) ?_;exact bm rfl
def lZ(i:Nat)(D:List Nat)(l:List It):List (List Nat):=dO D++[iY 1 ((i+1:Nat):Int) 0 D.length (ep D) l]
def gO(i:Nat)(D:List Nat)(l:List It):Hx:=⟨.i 1,.i (i+1:Nat),.i 0,.i D.length,.i (ep D 0),.i (ep D 1),.i (ep D 2),.i (ep D 3),.i (ep D 4),.i (ep D 5),l,lZ i D l⟩
def azu{e:Fs}(p:dG e){i:Nat}(y:i<8){g:Ge}(q:g.n=i)(c:fZ g){D r:List Nat}(t:e (2*(9*i))=some D)(z:B8 r)(j:D=il 1 ((i+1:Nat):Int) 0++r)(v:jV 1 ((i+1:Nat):Int) 0 D.length g.l)(A:∀x∈g.l,pK x){s g7 k:Int}:
 Gc (fx ((dv e).map bK) gs s g7 k h++gz g.gn)=some [.i 0,.i 1,.i (i+1:Nat),.i 0,.i D.length,.i (ep D 0),.i (ep D 1),.i (ep D 2),.i (ep D 3),.i (ep D 4),.i (ep D 5),.r (g.l.map bu),.r ((lZ i D g.l).map fR)]:=by
 have C:=c.s.len;have o:=p _ _ t;have B:g.gn.num=((i+1:Nat):Int):=by rw[Ge.num,q]
 have u:r.length<=2097152:=by
  have:=o.2;rw[j,cw]at this;omega
 have d:=aBD (a:=1) (g:=((i+1:Nat):Int)) (r:=0) ⟨dc,dc,om,om,dc,dc⟩ z u;rw[<-j]at d;have hit:=K9 (m:=gu g.l g.dW) c.mb.wm c.mb.mv;rw[yv c.s.v]at hit;refine bJ ?_;refine bz (l:=[.s (eL (2*(9*i)))]) (by show tu [.i 1,.i 1,.i g.gn.num]=_;rw[B];exact Y0 y) ?_;refine bR (ajt p om t) ?_;refine bT rfl (λh=>h rfl) ?_;refine bz (afJ p om t) ?_;refine bR d ?_;refine bT rfl (λh=>h rfl) ?_;refine bz hit ?_;refine bR (ati o.1 v om) ?_;refine bT rfl (λh=>h rfl) ?_;refine nN (m:=iY 1 ((i+1:Nat):Int) 0 D.length (ep D) g.l) (alb v (KI D) A om) rfl rfl (uR ?_);refine eI (r:=(lZ i D g.l).map fR) (nD _) rfl (by show((dO D).map fR).length<=_;rw[bA,oo];omega) fO dc (by unfold lZ;rw[dU];rfl) (nW ?_);exact bm rfl
def ajj{e:Fs}(q:dG e)(o:ec gs){i:Nat}(p:i<gs.length)(t:gs[i].mode=2)(u:∀j(h:j<i),(gs[j]'om).mode≠2){D r:List Nat}(v:e (2*(9*i))=some D)(y:B8 r)(l:D=il 1 ((i+1:Nat):Int) 0++r)(z:jV 1 ((i+1:Nat):Int) 0 D.length gs[i].l)(A:∀x∈gs[i].l,pK x){g7 k:Int}:
 pA (fx ((dv e).map bK) gs 1 g7 k h)=some (.r []::fx ((dv e).map bK) gs 2 (i+1:Nat) 0 (gO i D gs[i].l)):=by
 have m:=o.n8;have c:=o.ok i p;refine gp ?_;refine c9 rfl rfl ?_;refine bR (aBg m p t u) ?_;refine cu ?_;refine dC [.i 1,.i (i+1:Nat),.i 0,.i D.length,.i (ep D 0),.i (ep D 1),.i (ep D 2),.i (ep D 3),.i (ep D 4),.i (ep D 5),.r (gs[i].l.map bu),.r ((lZ i D gs[i].l).map fR)] ?_ ?_
 .refine bR (azu q (show i<8 by omega) c.2.1 c.1 v y l z A) ?_;refine bT rfl (λh=>h rfl) ?_;exact bm rfl
 refine bm ?_;have d:gs[i].gn.num=((i+1:Nat):Int):=by rw[Ge.num,c.2.1]
 show _::_::_::_::_::_::_::_::_::L.i gs[i].gn.num::_=_;rw[d];rfl
def ZT{g7 k:Int}(c:ec gs)(d:∀j(h:j<gs.length),gs[j].mode≠2):pA (fx R gs 1 g7 k h)=some (.r [[.sc (.int .i64 0),.sc (.int .i64 6)]]::fx R gs 0 0 0 ⟨.i 0,.i 0,.i 0,.i 0,.i 0,.i 0,.i 0,.i 0,.i 0,.i 0,[],[]⟩):=by
 refine gp ?_;refine c9 rfl rfl ?_;refine bR (akR c.n8 d) ?_;refine gY ?_;refine bR (l:=[]) (show nQ []=some []from rfl) ?_;exact bm rfl
end
def NC{a0 a1 a2 a3 a4 a5 a6 a7 a8 a9 CU CV a12:L}{it:List It}{da:List (List Nat)}(hi:it.length<=1000)(hd:da.length<=1000)(hb:∀d∈da,d.length<=4294967296):AY [a0,a1,a2,a3,a4,a5,a6,a7,a8,a9,CU,CV,a12,.r (it.map bu),.r (da.map fR)]=some [.r (da.map fR)]:=by
 refine bJ ?_;refine bz (Jx it hi) ?_;refine bz (l:=[]) (show R2 [.r (da.map fR)]=some []from bB ⟨nD _,by rw[bA];omega⟩) ?_;refine ew [.r (da.map fR)] ?_;refine uR ?_;rw[bA];refine wp_loop (I:=λa=>∃i:Nat,a=[.i i,.r (da.map fR)]/\i<=da.length) (mu:=cN da.length) ⟨0,rfl,om⟩ ?_;rintro a ⟨i,rfl,g1⟩;refine cz (λhc=>?_) (λhc=>?_);rotate_left
 .exact bm rfl
 have hi:i<da.length:=om;refine eR fR i hi ?_;refine dP fR i hi ?_;refine bz (ry (oW _) (by rw[bA];exact hb _ (cV hi))) ?_;refine eR fR i hi ?_;refine mQ (f:=fR) (l:=da) (n:=i) rfl rfl hi (by show(1:Nat)<=1;omega) rfl (nW ?_);refine cj i ?_;exact bm ⟨⟨i+1,rfl,om⟩,dy da.length i⟩
structure Cg where
 l:List Fl
 gs:List Ge
 s:Int
 g:Int
 k:Int
 h:Hx
abbrev Cg.A(c:Cg):List L:=fx (c.l.map bK) c.gs c.s c.g c.k c.h
structure AP(c:Cg):Prop where
 l:kG c.l
 g:ec c.gs
 s1:1<=c.s
 s8:c.s<=8
 i:c.h.it.length<=1000
 d:c.h.da.length<=1000
 b:∀d∈c.h.da,d.length<=4294967296
def Wm{c:Cg}(d:AP c){rows R':List (List PV)}{j:List Ge}{p g' q:Int}{r:Hx}(l:pA c.A=some (.r rows::fx R' j p g' q r)):MK c.A=some (.i 0::fx R' j p g' q r++[.r rows]):=by
 have m:=d.s1;have o:=d.s8;have hrun:wy [.i c.s,.i c.g,.i c.k,c.h.x0,c.h.x1,c.h.x2,c.h.x3,c.h.c0,c.h.c1,c.h.c2,c.h.c3,c.h.c4,c.h.c5,.r (c.h.it.map bu),.r (c.h.da.map fR)]=some [.b true]:=by
  refine bJ ?_;refine ew [.b true] ?_;refine uR ?_;refine c9 rfl m (uR ?_);exact bm (dT o)
 refine bJ ?_;refine bO (λxs=>xs=[.i 0]) ?_ ?_
 .refine bR (DJ d.g) ?_;refine cu ?_;refine bR hrun ?_;refine cu (uR ?_);refine bT rfl oO ?_;exact bm rfl
 rintro _ rfl;refine uR ?_;refine bT rfl (λh=>h rfl) ?_;refine bz (Rv (by have:=d.l.len;omega) d.l.qs) ?_;refine bz (Yk d.g) ?_;refine bz (NC d.i d.d d.b) ?_;refine bz l ?_;exact bm rfl
def Trn(c d:Cg):Prop:=∃R,pA c.A=some (.r []::fx R d.gs d.s d.g d.k d.h)/\uK [.i 0,.i (-1),.r R]=some [.r (d.l.map bK)]
def Fin(c:Cg)(d:List Fl)(j:List Ge)(gn r:Int):Prop:=∃R l g' m o,pA c.A=some (.r [[.sc (.int .i64 gn),.sc (.int .i64 r)]]::fx R j l g' m o)/\uK [.i 0,.i (-1),.r R]=some [.r (d.map bK)]
def z0:Hx:=⟨.i 0,.i 0,.i 0,.i 0,.i 0,.i 0,.i 0,.i 0,.i 0,.i 0,[],[]⟩
def SX:G0 [.i 0,.i 0,.i 0,.i 0,.i 0,.i 0,.i 0,.i 0,.i 0,.i 0,.i 0,.i 0,.i 0,.r [],.r []]=some [.i 1,.r []]:=by
 refine bJ ?_;refine bz (NC (it:=[]) (da:=[]) dc dc (λd c=>by cases c)) ?_;refine ew [.i 1] ?_;refine uR ?_;refine c9 rfl rfl ?_;exact bm rfl
def Tl(Cfg:Nat->Cg->Prop){lf:List Fl}{gf:List Ge}{gn r:Int}{data:L}{l0:List Fl}{gs0:List Ge}(h0:Cfg 0 ⟨l0,gs0,1,0,0,z0⟩)(hgf:gf.length<=8)(hs:∀n c,Cfg n c->n<60/\AP c/\((∃c',Trn c c'/\Cfg (n+1) c')\/Fin c lf gf gn r)):
 B7 (dA l0++sA gs0++[data,.i 0,.i (-1)])=some (.b true::dA lf++sA gf++[.i gn,.i r,data]):=by
 refine bJ ?_;refine bz (l:=[]) (show nQ []=some []from rfl) ?_;refine bz SX ?_;refine bO (λ_=>False) ?_ (by rintro _ h;cases h);refine wp_loop (I:=λa=>∃(n:Nat)(c:Cg),a=.i n::(c.A++[data])/\Cfg n c) (mu:=cN 60) ⟨0,_,rfl,h0⟩ ?_;rintro a ⟨n,c,rfl,hc⟩;obtain⟨hn,dQ,CL⟩:=hs n c hc;refine uR ?_;refine c9 rfl om ?_;refine dC [.i 0,.i (-1),.r (c.l.map bK),.i 1,.i 9000,.b false,.r (c.gs.map gR),data] ?_ ?_
 .refine uR ?_;refine bT rfl om ?_;exact bm rfl
 refine bz (Z4 (l:=c.l) (by have:=dQ.l.len;omega) dQ.l.qs) ?_;refine bz (S5 dQ.g.n8) ?_;rcases CL with⟨c',⟨R,Qh,Qi⟩,hc'⟩| ⟨R,s',g',k',h',Qh,Qi⟩
 .refine bR (Wm dQ Qh) ?_;refine bT rfl (λh=>h rfl) ?_;refine bz Qi ?_;refine bR (Re (hs _ _ hc').2.1.g.n8) ?_;refine bT rfl oO ?_;refine cj n ?_;exact bm ⟨⟨n+1,c',rfl,hc'⟩,dy 60 n⟩
 .refine bR (Wm dQ Qh) ?_;refine bT rfl (λh=>h rfl) ?_;refine bz Qi ?_;refine bR (Re hgf) ?_;refine c9 rfl oO ?_;refine jy (r:=[.sc (.int .i64 gn),.sc (.int .i64 r)]) oO rfl rfl (nW ?_);refine r5 (r:=[.sc (.int .i64 gn),.sc (.int .i64 r)]) rfl rfl rfl (nW ?_);refine r5 (r:=[.sc (.int .i64 gn),.sc (.int .i64 r)]) rfl rfl rfl (nW ?_);exact bm rfl
def eY(f:Fs)(i:Nat)(w:Nat->List Nat)(a b:Nat):Fs:=λj=>
 if j%2=1/\2*(9*i+2+a)<j/\j<2*(9*i+2+b)then some (w (j/2- (9*i+2)))
 else if j%2=0/\2*(9*i+2)<=j/\j<2*(9*i+2+a)then some (w (j/2- (9*i+2)))
 else kv f j
section
variable{f:Fs}{i:Nat}{w:Nat->List Nat}{a b k:Nat}
def apC:eY f i w 0 0=kv f:=by
 funext j;unfold eY;rw[bG om,bG om]
def K5(h:¬(a<=k/\k<b)):eY f i w a b (2*(9*i+(2+k))+1)=none:=by
 unfold eY;rw[bG om,bG om];exact Bm f _
def Ka(c:a<=k)(d:k<b):eY f i w a b (2*(9*i+(2+k))+1)=some (w k):=by
 unfold eY;rw[bB om,show(2*(9*i+(2+k))+1) /2- (9*i+2)=k by omega]
def Q6(h:a<=k):eY f i w a b (2*(9*i+(2+k)))=f (9*i+(2+k)):=by
 unfold eY;rw[bG om,bG om];exact tG f _
def aCQ:eY f i w a b (2*(9*i))=f (9*i):=by
 unfold eY;rw[bG om,bG om];exact tG f _
def awf(l:dG f)(d:∀k,okB (w k)):dG (eY f i w a b):=λj x c=>by
 unfold eY at c;split at c
 .cases c;exact d _
 .split at c
  .cases c;exact d _
  .exact l.kv _ _ c
def arA:cq (cq (eY f i w 0 k) (2*(9*i+(2+k))+1) (some [])) (2*(9*i+(2+k))+1) (some (w k))=eY f i w 0 (k+1):=by
 funext j;by_cases h:j=2*(9*i+(2+k))+1
 .subst h;rw[gN,Ka om om]
 .rw[dN h,dN h];unfold eY;by_cases c:j%2=1/\2*(9*i+2+0)<j/\j<2*(9*i+2+k)
  .rw[bB c,bB om]
  .rw[bG c,bG (show¬(j%2=1/\2*(9*i+2+0)<j/\j<2*(9*i+2+(k+1)))by omega)]
def W9(m:k<7):cq (cq (eY f i w k 7) (2*(9*i+(2+k))+1) none) (2*(9*i+(2+k))) (some (w k))=eY f i w (k+1) 7:=by
 funext j;by_cases h:j=2*(9*i+(2+k))
 .subst h;rw[gN];unfold eY;rw[bG om,bB om,show 2*(9*i+(2+k)) /2- (9*i+2)=k by omega]
 .rw [dN h];by_cases c:j=2*(9*i+(2+k))+1
  .subst c;rw[gN,K5 om]
  .rw[dN c];unfold eY;by_cases d:j%2=1/\2*(9*i+2+k)<j/\j<2*(9*i+2+7)
   .rw[bB d,bB om]
   .rw[bG d,bG (show¬(j%2=1/\2*(9*i+2+(k+1))<j/\j<2*(9*i+2+7))by omega)];by_cases l:j%2=0/\2*(9*i+2)<=j/\j<2*(9*i+2+k)
    .rw[bB l,bB om]
    .rw[bG l,bG om]
end
def gq(i:Nat)(D:List Nat)(l:List It)(k:Nat):List Nat:=(lZ i D l).getD k []
def OW(i D l):(lZ i D l).length=7:=by unfold lZ;rw[cw,oo];rfl
def Yw{i D l k}(h:k<6):gq i D l k=(dO D).getD k []:=by
 unfold gq lZ;rw[iD,iD,nz (by rw[oo];exact h)]
def T5{i D l}:gq i D l 6=iY 1 ((i+1:Nat):Int) 0 D.length (ep D) l:=by
 unfold gq lZ;rw[iD,kX (by rw[oo];omega),oo];rfl
def arB{f:Fs}{i:Nat}{D:List Nat}{l:List It}:cq (eY f i (gq i D l) 7 7) (2*(9*i)) none=kv (cq (cq (jN f i D 6) (9*i+8) (some (iY 1 ((i+1:Nat):Int) 0 D.length (ep D) l))) (9*i) none):=by
 funext j;by_cases h:j=2*(9*i)
 .subst h;rw[gN,tG,gN]
 rw[dN h];by_cases o:j%2=0
 .obtain⟨m,rfl⟩:∃m,j=2*m:=⟨j/2,om⟩
  rw[tG,dN om];by_cases c:m=9*i+8
  .subst c;rw[gN];unfold eY;rw[bG om,bB om,show 2*(9*i+8) /2- (9*i+2)=6 by omega,T5]
  rw[dN c];unfold eY jN;by_cases d:9*i+2<=m/\m<9*i+2+6
  .rw[bG om,bB om,bB d,Yw om,show 2*m/2=m by omega]
  .rw[bG om,bG om,bG d,tG]
 .obtain⟨m,rfl⟩:∃m,j=2*m+1:=⟨j/2,om⟩
  rw[Bm];unfold eY;rw[bG om,bG om,Bm]
def Cf(f:Fs)(gs d:List Ge)(i:Nat)(D:List Nat)(l:List It)(n:Nat)(c:Cg):Prop:=
 (n=0/\c=⟨cT f,gs,1,0,0,z0⟩)\/
 (∃k:Nat,k<7/\n=4*k+1/\c=⟨dv (eY f i (gq i D l) 0 k),gs,2,(i+1:Nat),k,gO i D l⟩)\/
 (∃k:Nat,k<7/\n=4*k+2/\c=⟨dv (eY f i (gq i D l) 0 k),gs,3,(i+1:Nat),k,gO i D l⟩)\/
 (∃k:Nat,k<7/\n=4*k+3/\c=⟨dv (cq (eY f i (gq i D l) 0 k) (2*(9*i+(2+k))+1) (some [])),gs,4,(i+1:Nat),k,gO i D l⟩)\/
 (∃k:Nat,k<7/\n=4*k+4/\c=⟨lx (cq (eY f i (gq i D l) 0 k) (2*(9*i+(2+k))+1) (some [])) (2*(9*i+(2+k))+1) (lR (2*(9*i+(2+k))+1) (gq i D l k)),gs,5,(i+1:Nat),k,gO i D l⟩)\/
 (∃k:Nat,k<6/\n=29+k/\c=⟨dv (eY f i (gq i D l) k 7),gs,6,(i+1:Nat),k,gO i D l⟩)\/
 (n=35/\c=⟨dv (eY f i (gq i D l) 6 7),gs,7,(i+1:Nat),6,gO i D l⟩)\/
 (n=36/\c=⟨dv (eY f i (gq i D l) 7 7),d,8,(i+1:Nat),6,gO i D l⟩)
def IW{l:List Fl}{gs:List Ge}(c:kG l)(j:ec gs):AP ⟨l,gs,1,0,0,z0⟩:=⟨c,j,(by show(1:Int)<=1;decide),(by show(1:Int)<=8;decide),(by show(0:Nat)<=1000;decide),(by show(0:Nat)<=1000;decide),λd m=>by cases m⟩
def ayf{f gs H B}(h:Inv f gs H B)(hB:B<=15700){i:Nat}(v:i<gs.length)(V:gs[i].mode=2)(hb:∀j(h:j<i),(gs[j]'om).mode≠2)(data:L):
 ∃X,B7 (dA (cT f)++sA gs++[data,.i 0,.i (-1)])=some (.b true::dA (cT X)++sA (gs.set i (fY gs[i]))++[.i (i+1:Nat),.i 0,data])/\Inv X (gs.set i (fY gs[i])) H (B+248)/\X (9*i)=none:=by
 have p:=h.s;have Y:=p.n8;have t:=p.ok i v;have W:=h.vb i v;have F:=h.op i v (by rw[V];decide);have u:=h.JQ om v V;have A:dG f:=h.okF om;obtain⟨r,hr,N⟩:=W.2.2.2;have Z:=h.jV om v;have af:=t.1.s.len;have aa:fZ (fY gs[i]):=⟨t.1.n8,(by show(1:Int)<=3;omega),(by show(3:Int)<=3;omega),t.1.s,t.1.cl,t.1.en,t.1.g0,t.1.g8,t.1.sz⟩
 obtain⟨D,ab⟩:∃D,H i=D:=⟨_,rfl⟩
 rw[ab]at W F u N Z;have ae:Sp.cU D.length<=1048576:=by have:=W.2.2.1;unfold Sp.cU;omega
 have M:∀k,okB (gq i D gs[i].l k):=λk=>by
  by_cases h6:k<6
  .rw[Yw h6];have:=HP W.1 k;exact⟨this.1,om⟩
  .by_cases h7:k=6
   .subst h7;rw[T5];have:=xv 1 ((i+1:Nat):Int) 0 D.length (ep D) gs[i].l;refine⟨r6 (HK _ _ _ _ _ _),?_⟩;unfold iY;rw[rq];omega
   .unfold gq;rw[iD,nA (by rw[OW];omega)];exact⟨λx O=>(by cases O),dc⟩
 have ac:∀d∈(gO i D gs[i].l).da,d.length<=4294967296:=λd hd=>by
  obtain⟨k,o,rfl⟩:=kL hd;have:=(M k).2;unfold gq at this;have o:k< (lZ i D gs[i].l).length:=o;rw[iA o]at this;have this:(lZ i D gs[i].l)[k].length<=1048576:=this;show(lZ i D gs[i].l)[k].length<=_;omega
 have m:∀a b,dG (eY f i (gq i D gs[i].l) a b):=λa b=>awf A M
 have z:∀k J,dG (cq (eY f i (gq i D gs[i].l) 0 k) J (some [])):=λk J=>(m 0 k).cq λx O=>by cases O;exact Tx
 have y:∀{l:List Fl}{P:List Ge}{s g k:Int},kG l->ec P->1<=s->s<=8->AP ⟨l,P,s,g,k,gO i D gs[i].l⟩:=λq h2 h3 h4=>⟨q,h2,h3,h4,by show gs[i].l.length<=1000;omega,by show(lZ i D gs[i].l).length<=1000;rw[OW];omega,ac⟩
 have Q:∀k,k<7->f (9*i+(2+k))=none:=λk o=>F.2 (2+k) om om
 have C:∀{k},k<7->k< (gO i D gs[i].l).da.length:=λ{k}o=>by show k< (lZ i D gs[i].l).length;rw[OW];exact o
 have G:∀{k}(o:k<7),(gO i D gs[i].l).da[k]'(C o)=gq i D gs[i].l k:=λ{k}o=>(iA (C o)).symm
 have E:i<8:=om;refine⟨_,?_,u,gN⟩;rw[<-tK (cq (cq (jN f i D 6) (9*i+8) _) (9*i) none),<-arB];refine Tl (Cf f gs (gs.set i (fY gs[i])) i D gs[i].l) (.inl ⟨rfl,rfl⟩) (by rw[lN];exact Y) ?_;rintro n c (⟨rfl,rfl⟩| ⟨k,o,rfl,rfl⟩| ⟨k,o,rfl,rfl⟩| ⟨k,o,rfl,rfl⟩| ⟨k,o,rfl,rfl⟩| ⟨k,o,rfl,rfl⟩| ⟨rfl,rfl⟩| ⟨rfl,rfl⟩)
 ·
  have q:=ajj (h:=z0) A.kv p v V hb (by rw[tG];exact F.1) hr N Z.1 Z.2 (g7:=0) (k:=0);rw[tK]at q;have hl:kG (cT f):=by rw[<-tK];exact jP A.kv
  have h2:dv (eY f i (gq i D gs[i].l) 0 0)=cT f:=by rw[apC,tK]
  refine⟨om,IW hl p,.inl ⟨⟨dv (eY f i (gq i D gs[i].l) 0 0),gs,2,(i+1:Nat),(0:Nat),gO i D gs[i].l⟩,⟨(cT f).map bK,q,?_⟩,.inr (.inl ⟨0,dc,rfl,rfl⟩)⟩⟩;show uK [.i 0,.i (-1),.r ((cT f).map bK)]=some [.r ((dv (eY f i (gq i D gs[i].l) 0 0)).map bK)];rw[h2];exact qf hl
 ·
  have q:=uU (s:=2) (h:=gO i D gs[i].l) dc p v (Bs (.inl rfl) o) (amA (m 0 k) E o (K5 om)) ado;exact⟨om,y (s:=2) (jP (m 0 k)) p dc dc,.inl ⟨⟨dv (eY f i (gq i D gs[i].l) 0 k),gs,3,(i+1:Nat),k,gO i D gs[i].l⟩,⟨_,q,qf (jP (m 0 k))⟩,.inr (.inr (.inl ⟨k,o,rfl,rfl⟩))⟩⟩
 ·
  have q:=uU (s:=3) (h:=gO i D gs[i].l) dc p v (Bs (.inr (.inl rfl)) o) (azV (m 0 k) E o (K5 om)) avS;exact⟨om,y (s:=3) (jP (m 0 k)) p dc dc,.inl ⟨⟨dv (cq (eY f i (gq i D gs[i].l) 0 k) (2*(9*i+(2+k))+1) (some [])),gs,4,(i+1:Nat),k,gO i D gs[i].l⟩,⟨_,q,qf (jP (z k _))⟩,.inr (.inr (.inr (.inl ⟨k,o,rfl,rfl⟩)))⟩⟩
 ·
  have S:=azP (gs:=gs) (h:=gO i D gs[i].l) (z k (2*(9*i+(2+k))+1)) E o gN (C o) (by rw[G o];exact M k);rw[G o]at S;have q:=uU (s:=4) dc p v (Bs (.inr (.inr (.inl rfl))) o) S azm;exact⟨om,y (s:=4) (jP (z k _)) p dc dc,.inl ⟨⟨lx (cq (eY f i (gq i D gs[i].l) 0 k) (2*(9*i+(2+k))+1) (some [])) (2*(9*i+(2+k))+1) (lR (2*(9*i+(2+k))+1) (gq i D gs[i].l k)),gs,5,(i+1:Nat),k,gO i D gs[i].l⟩,⟨_,q,aBy (z k _) om (M k)⟩,.inr (.inr (.inr (.inr (.inl ⟨k,o,rfl,rfl⟩))))⟩⟩
 ·
  have I:=ajL (gs:=gs) (h:=gO i D gs[i].l) (z k (2*(9*i+(2+k))+1)) E o (M k);rw[arA]at I;have T:=y (s:=5) (g:=(i+1:Nat)) (k:=k) (M6 (z k (2*(9*i+(2+k))+1)) (FL (J:=(2*(9*i+(2+k))+1)) om (M k))) p dc dc;refine⟨om,T,.inl ?_⟩;by_cases h6:k=6
  .subst h6;have q:=uU (s:=5) (k:=((6:Nat):Int)) dc p v (Bs (.inr (.inr (.inr rfl))) o) I aiG;exact⟨⟨dv (eY f i (gq i D gs[i].l) 0 7),gs,6,(i+1:Nat),(0:Nat),gO i D gs[i].l⟩,⟨_,q,qf (jP (m 0 7))⟩,.inr (.inr (.inr (.inr (.inr (.inl ⟨0,dc,rfl,rfl⟩)))))⟩
  .have q:=uU (s:=5) dc p v (Bs (.inr (.inr (.inr rfl))) o) I (arf om);exact⟨⟨dv (eY f i (gq i D gs[i].l) 0 (k+1)),gs,2,(i+1:Nat),(k+1:Nat),gO i D gs[i].l⟩,⟨_,q,qf (jP (m 0 (k+1)))⟩,.inr (.inl ⟨k+1,om,om,rfl⟩)⟩
 ·
  have K:=ajG (gs:=gs) (h:=gO i D gs[i].l) (m k 7) E (show k<7 by omega) (Ka (dz k) om) (by rw[Q6 (dz k)];exact Q k om);rw[W9 om]at K;refine⟨om,y (s:=6) (jP (m k 7)) p dc dc,.inl ?_⟩;by_cases h5:k=5
  .subst h5;have q:=uU (s:=6) (k:=((5:Nat):Int)) dc p v (Wb o) K aog;exact⟨⟨dv (eY f i (gq i D gs[i].l) 6 7),gs,7,(i+1:Nat),6,gO i D gs[i].l⟩,⟨_,q,qf (jP (m 6 7))⟩,.inr (.inr (.inr (.inr (.inr (.inr (.inl ⟨rfl,rfl⟩))))))⟩
  .have q:=uU (s:=6) dc p v (Wb o) K (auW om);exact⟨⟨dv (eY f i (gq i D gs[i].l) (k+1) 7),gs,6,(i+1:Nat),(k+1:Nat),gO i D gs[i].l⟩,⟨_,q,qf (jP (m (k+1) 7))⟩,.inr (.inr (.inr (.inr (.inr (.inl ⟨k+1,om,om,rfl⟩)))))⟩
 ·
  have U:=auR (h:=gO i D gs[i].l) (m 6 7) p v V aa u.s (Ka (k:=6) dc dc) (by rw[Q6 (k:=6) (dz 6)];exact Q 6 dc);rw[W9 (k:=6) dc]at U;exact⟨om,y (s:=7) (jP (m 6 7)) p dc dc,.inl ⟨⟨dv (eY f i (gq i D gs[i].l) 7 7),(gs.set i (fY gs[i])),8,(i+1:Nat),6,gO i D gs[i].l⟩,⟨_,U,qf (jP (m 7 7))⟩,.inr (.inr (.inr (.inr (.inr (.inr (.inr ⟨rfl,rfl⟩))))))⟩⟩
 ·
  have ad:=aho (h:=gO i D gs[i].l) (m 7 7) u.s (n:=i) (by rw[lN];exact v) (k:=6) (b:=D) (by rw[aCQ];exact F.1);exact⟨om,y (s:=8) (jP (m 7 7)) u.s dc dc,.inr ⟨_,_,_,_,_,ad,qf (jP ((m 7 7).cq λx O=>by cases O))⟩⟩
def aBU{f gs d B}(h:Inv f gs d B)(p:B<=15700)(o:∀j(h:j<gs.length),gs[j].mode≠2)(data:L):
 B7 (dA (cT f)++sA gs++[data,.i 0,.i (-1)])=some (.b true::dA (cT f)++sA gs++[.i 0,.i 6,data]):=by
 have l:=h.s;have m:kG (cT f):=by rw[<-tK];exact jP (h.okF om).kv
 refine Tl (λn c=>n=0/\c=⟨cT f,gs,1,0,0,z0⟩) ⟨rfl,rfl⟩ l.n8 ?_;rintro n c ⟨rfl,rfl⟩;exact⟨om,IW m l,.inr ⟨_,_,_,_,_,ZT (h:=z0) l o,qf m⟩⟩
end
end
end Go.Proofs.YtiikkkhcolcebaaGreatDoor
