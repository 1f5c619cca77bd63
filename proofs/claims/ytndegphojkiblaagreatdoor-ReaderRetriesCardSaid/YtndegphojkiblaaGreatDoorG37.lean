/- A part of the proof. -/
import Derived.Test.YtndegphojkiblaaGreatDoorG34
import Derived.Test.YtndegphojkiblaaGreatDoorG36
set_option linter.all false
set_option maxHeartbeats 4000000
set_option maxRecDepth 100000
namespace Go.Proofs.YtndegphojkiblaaGreatDoor
noncomputable section
section
open Go.RowKit Pl AI
attribute [local irreducible] ae.wp
def o_ (b:List Nat) (i:Nat):List Nat:=(List.range (Sp.bM b.length)).map fun j=>if Sp.oY i j<b.length then b.getD (Sp.oY i j) 0 else 0
def ql (b:List Nat):List (List Nat):=(List.range 4).map (o_ b)
theorem Ie (b) (i):(o_ b i).length=Sp.bM b.length:=by simp[o_]
theorem axF {b} (hb:B8 b) (i):B8 (o_ b i):=fun x hx=>by
 obtain⟨j,_,rfl⟩:=fe.1 hx;split
 · rename_i h;rw[jA h];exact hb _ (b8 h)
 · decide
theorem No {b} (hb:B8 b):nT (ql b) (Sp.bM b.length):=fun d hd=>by
 obtain⟨i,_,rfl⟩:=fe.1 hd;exact⟨axF hb i,Ie b i⟩
theorem Bz (b):(ql b).length=4:=rfl
theorem aga (b:List Nat) (hl:b.length≤1048576):wz [.r (b.map b1)]=some [.r ((ql b).map fR)]:=by
 unfold wz;dsimp only;rw[show(L.r (b.map b1)).az=b.map b1 from rfl,Td];dsimp only;rw[ay (by rw[aA];exact hl)];congr 3;unfold Sp.tC ql;rw[gd];refine fK fun i _=> ?_
 show Sp.BI _ i=fR (o_ b i);unfold Sp.BI fR o_;rw[aA];congr 2;unfold gO;rw[gd,gd];refine fK fun j _=> ?_
 show[PV.sc (.int .u8 (Sp.fill _ _ i j))]=b1 _;unfold Sp.fill b1;dsimp only;by_cases h:Sp.oY i j<b.length
 · rw[ay h,ay h,bV,mo,bW h];rfl
 · rw[aC h,aC h];rfl
theorem alz {ds:List (List Nat)} (h4:ds.length=4) {m} (hd:nT ds m):JP [.r (ds.map fR),.i 4]=some [.b true]:=by
 refine aH ?_;refine uR ?_;rw[aA];refine ba rfl (by rw[h4];decide) ?_;refine aB (fun xs=>xs=[]) ?_ (by rintro _ rfl;refine nW ?_;exact ad rfl);refine wp_loop (I:=fun a=>∃i:Nat,a=[.i i]∧i≤4) (mu:=fun a=>match a with|[.i i]=>4-i.toNat|_=>0) ⟨0,rfl,om⟩ ?_;rintro a ⟨i,rfl,e1⟩;refine uR ?_;refine aI rfl (fun hx=> ?_) (fun hx=>ad rfl);have hi:i<ds.length:=om;have h0:0<ds.length:=om;refine aP (f:=fR) (j:=i) rfl rfl hi rfl (uR ?_);refine aP (f:=fR) (j:=0) rfl rfl h0 rfl (uR ?_);refine ba rfl (by rw[aA,aA,(hd.at hi).2,(hd.at h0).2];exact fun h=>h rfl) ?_;refine bg (i:=i) rfl om (nW ?_);refine ad ⟨⟨i+1,rfl,om⟩,?_⟩;show 4- ((i+1:Nat):Int).toNat<4-i;omega
def sJ (ds:List (List Nat)) (m:Nat):List (List Nat):=py GF ds m 6
theorem agz:∀x∈GF,x<256:=by decide
theorem apy {ds:List (List Nat)} (h4:ds.length=4) {m} (hm:m≤4294967296) (hd:nT ds m):F105 [.r (ds.map fR)]=some [.r ((sJ ds m).map fR)]:=by
 refine aH ?_;refine ag ajJ rfl rfl (nW ?_);refine ag (acV (E:=GF) dc agz h4 hm hd) rfl rfl (nW ?_);exact ad rfl
theorem akC {ds:List (List Nat)} (h4:ds.length=4) {m} (hm:m≤4294967296) (hd:nT ds m):JW [.r (ds.map fR)]=some [.r (((sJ ds m).drop 4).map fR),.i 0]:=by
 have hl:(sJ ds m).length=6:=DV _ _ _ _;refine aH ?_;refine ag (alz h4 hd) rfl rfl (uR ?_);refine bj rfl ?_;refine ag (apy h4 hm hd) rfl rfl (uR ?_);rw[aA,hl];refine nh ⟨by show(0:Int)≤4;omega,by show(4:Int)≤6;omega,by show(6:Nat)≤((sJ ds m).map fR).length;rw[aA,hl];omega,lT (DE _)⟩ (nW ?_);refine jW (ls:=[.r (((sJ ds m).drop 4).map fR)]) ?_ (nW ?_)
 · show some [L.r ((((sJ ds m).map fR).drop 4).take 2)]=_;rw[←ml,fD (by rw[aA,jt,hl];decide)]
 exact ad rfl
def cJ (b:List Nat):List (List Nat):=ql b++(sJ (ql b) (Sp.bM b.length)).drop 4
theorem xy (b):(cJ b).length=6:=by unfold cJ;rw[bE,jt,Bz];show 4+((py _ _ _ _).length-4)=6;rw[DV]
theorem FI {b} (hb:B8 b):nT (cJ b) (Sp.bM b.length):=fun d hd=>by
 rcases im.1 hd with h|h
 · exact No hb d h
 · exact aln (Bz b) (No hb) d (wh h)
def iB (b:List Nat) (k:Nat):Int:=ff ((cJ b).getD k [])
theorem SR (b) (k):0≤iB b k∧iB b k<4294967296:=by
 have:=Rk ((cJ b).getD k []);unfold iB;omega
def Wx (c:Nat→Int) (i k:Nat):Int:=if k<i then c k else 0
theorem asf {b:List Nat} (hb:B8 b) {a g r:Int} {l:List It} (hH:jl a g r b.length l) (hl:l.length≤1000):NV [.r (b.map b1),.i a,.i g,.i r,.r (l.map ao)]=some ([.i 0,.r ((cJ b).map fR),.i a,.i g,.i r,.i b.length]++cA (iB b)++ [.r (l.map ao)]):=by
 have kh:=hH.2.1;have hn2:=hH.2.2.1;have aEc:Sp.bM b.length≤1048576:=by unfold Sp.bM;omega
 have h6:=xy b;refine aH ?_;refine uR ?_;rw[aA];refine dC (r:=l.map ao) rfl (eY _) (by show(0:Nat)≤_;omega) (by show(l.map ao).length≤_;rw[aA];omega) dc rfl (nW ?_);refine ag (Zd a g r b.length (.i 0) (.i 0) (.i 0) (.i 0) (.i 0) (.i 0) l om (je hH)) rfl rfl (uR ?_);refine bj rfl ?_;refine ag (aga b om) rfl rfl (nW ?_);refine ag (akC (Bz b) om (No hb)) rfl rfl (nW ?_);refine dC (r:=(cJ b).map fR) (DE _) (DE _) (by show((ql b).map fR).length≤_;rw[aA,Bz];omega) (by show(((sJ (ql b) (Sp.bM b.length)).drop 4).map fR).length≤_;rw[aA,jt];show(py _ _ _ _).length-4≤_;rw[DV];omega) dc (by unfold cJ;rw[dk];rfl) (nW ?_);refine aB (fun xs=>xs=cA (iB b)) ?_ (by rintro _ rfl;refine nW ?_;exact ad rfl);refine wp_loop (I:=fun y=>∃i:Nat,y= .i i::cA (Wx (iB b) i)∧i≤6) (mu:=fun y=>match y with| .i i::_=>6-i.toNat|_=>0) ⟨0,rfl,om⟩ ?_;rintro y ⟨i,rfl,e1⟩;refine uR ?_;refine aI rfl (fun hx=> ?_) (fun hx=> ?_);rotate_left
 · obtain rfl:i=6:=om;exact ad rfl
 have hi:i< (cJ b).length:=om;have HF:=(FI hb).at hi;refine aB (fun xs=>xs= .i i::cA (Wx (iB b) (i+1))) ?_ ?_;rotate_left
 · rintro _ rfl;refine nW ?_;refine bg (i:=i) rfl om (nW ?_);refine ad ⟨⟨i+1,rfl,om⟩,?_⟩;show 6- ((i+1:Nat):Int).toNat<6-i;omega
 have hcs:ff (cJ b)[i]=iB b i:=by unfold iB;rw[jA hi]
 refine aP (f:=fR) (j:=i) rfl rfl hi rfl (nW ?_);refine dx (f:=fR) (l:=cJ b) (j:=i) rfl rfl hi rfl rfl (nW ?_);refine ag (Qf (cJ b)[i] om) rfl rfl ?_;rw[hcs];refine nW ?_;have h6i:i=0∨i=1∨i=2∨i=3∨i=4∨i=5:=om;rcases h6i with rfl|rfl|rfl|rfl|rfl|rfl<;>
   (repeat (first| (refine cS rfl dc ?_)| (refine ba rfl dc ?_)| (refine sT rfl ?_;try dsimp only[At.ev,d1,d2,d3,d4,d5,d6,d7,d8,d9,e0,List.map,cb,Kd.pv])))<;>exact ad rfl
end
section
open Go.RowKit Pl
def eH (D:List Nat) (x:It):List Nat:=aS D (x.off.toNat+20) (x.off.toNat+20+x.size.toNat)
def kK (D:List Nat) (x:It):Nl:=⟨x.key,x.cookie,false,eH D x⟩
structure mG (D:List Nat) (x:It):Prop where
 c0:0≤x.cookie
 c4:x.cookie≤4294967295
 rc:aS D x.off.toNat (x.off.toNat+bM x.size.toNat)=fW x.key x.cookie false (eH D x)
 ln:(eH D x).length=x.size.toNat
theorem YM {D E:List Nat} {a c} (h:c≤D.length):aS (D++E) a c=aS D a c:=by
 unfold aS;rw[List.take_append_of_le_length h]
theorem P' {x:It} (h:dm x=true):∃o n:Nat,x.off=o∧x.size=n∧n≤4096∧ends x=((o+bM n:Nat):Int):=by
 have hb:=Af h;obtain⟨o,ho⟩:∃o:Nat,x.off=o:=⟨x.off.toNat,om⟩
 obtain⟨n,hn⟩:∃n:Nat,x.size=n:=⟨x.size.toNat,om⟩
 refine⟨o,n,ho,hn,om,?_⟩;unfold ends;rw[hn,zP om,ho];omega
theorem mG.app {D E} {x} (h:mG D x) (hx:dm x=true) (he:ends x≤D.length):mG (D++E) x∧eH (D++E) x=eH D x:=by
 obtain⟨o,n,h1,h2,h3,h4⟩:=P' hx;have hsz:=rV n;have e1:x.off.toNat=o:=om;have e2:x.size.toNat=n:=om;have hr:eH (D++E) x=eH D x:=by unfold eH;rw[e1,e2,YM om]
 refine⟨⟨h.c0,h.c4,?_,by rw[hr];exact h.ln⟩,hr⟩;rw[hr,←h.rc,YM (by rw[e1,e2];omega)]
theorem mG.new {D:List Nat} {x:Nl} (hx:jO x) (hd:x.del=false):mG (D++fW x.key x.cookie x.del x.data) ⟨x.key,x.cookie,D.length,x.data.length⟩∧kK (D++fW x.key x.cookie x.del x.data) ⟨x.key,x.cookie,D.length,x.data.length⟩=x:=by
 have hsz:=rV x.data.length;have hl:=Gy x.key x.cookie x.del x.data;have hr:eH (D++fW x.key x.cookie x.del x.data) ⟨x.key,x.cookie,D.length,x.data.length⟩=x.data:=by
   unfold eH;refine eU (p:=D++([78,165,cond x.del 1 0,0]++num x.cookie 4++num x.key 8++num x.data.length 4)) (r:=cf (kU x.key x.cookie x.del x.data)++List.replicate (bM x.data.length- (x.data.length+24)) 0) ?_ ?_ ?_
   · simp[fW,dw,kU]
   · simp[cr]
   · rfl
 refine⟨⟨hx.c0,hx.c4,?_,by rw[hr];rfl⟩,?_⟩
 · rw[hr];refine eU (p:=D) (r:=[]) ?_ rfl ?_
   · rw[eW,hd]
   · show(D.length:Int).toNat+_=(D.length:Int).toNat+bM (x.data.length:Int).toNat;rw[←hd,hl];rfl
 · unfold kK;rw[hr];cases x;cases hd;rfl
structure Q5 (f:Fs) (i:Nat) (D:List Nat) (l its:List It):Prop where
 h:jl 1 ((i+1:Nat):Int) 0 D.length its
 e:∀x∈its,u6 x
 n:its.length≤8
 m:∀x∈l,x∈its
 x:f (9*i+8)=some (iX 1 ((i+1:Nat):Int) 0 D.length (iB D) its)
 s:∀k,k<6→f (9*i+(2+k))=some ((cJ D).getD k [])
structure Inv (f:Fs) (gs:List Ge) (vol:Nat→List Nat) (B:Nat):Prop where
 s:dp gs
 fb:∀j b,f j=some b→B8 b∧b.length≤B
 vb:∀(i:Nat) (h:i<gs.length),B8 (vol i)∧((vol i).length:Int)=gs[i].size∧(vol i).length≤B∧∃r,B8 r∧vol i=iz 1 ((i+1:Nat):Int) 0++r
 rc:∀(i:Nat) (h:i<gs.length),∀x∈gs[i].l,mG (vol i) x
 op:∀(i:Nat) (h:i<gs.length),gs[i].mode≠3→f (9*i)=some (vol i)∧∀k,2≤k→k<9→f (9*i+k)=none
 cl:∀(i:Nat) (h:i<gs.length),gs[i].mode=3→∃its,Q5 f i (vol i) gs[i].l its
 ft:∀j,9*gs.length≤j→f j=none
def look (gs:List Ge) (i:Nat) (k:Int):Option It:=bG (gs.getD i ⟨0,0,[],0⟩).l k
def gi (gs:List Ge) (k:Int):Nat→Option (Nat×It)
 |0=>none
 |i+1=>match look gs i k with
  |some x=>some (i,x)
  |none=>gi gs k i
theorem rX {gs} {i} (h:i<gs.length) (k):look gs i k=bG gs[i].l k:=by unfold look;rw[jA h]
theorem L4 {gs gs':List Ge} {k}:∀{n},(∀i,i<n→look gs i k=look gs' i k)→gi gs k n=gi gs' k n
 |0,_=>rfl
 |n+1,h=>by
  rw[gi,gi,h n (ov n),L4 fun i hi=>h i om]
theorem Gi {gs} {k}:∀{n},(∀i,i<n→look gs i k=none)→gi gs k n=none
 |0,_=>rfl
 |n+1,h=>by rw[gi,h n (ov n),Gi fun i hi=>h i om]
theorem AJ {gs} {k}:∀{n} {p:Nat×It},gi gs k n=some p→p.1<n∧look gs p.1 k=some p.2
 |0,_,h=>by cases h
 | n+1,p,h=>by
  rw[gi]at h
  cases hl:look gs n k with
  |none=>
   rw[hl]at h;have:=AJ h;exact⟨om,this.2⟩
  |some x=>
   rw[hl]at h;cases h;exact⟨ov n,hl⟩
def has (gs:List Ge) (vol:Nat→List Nat) (k:Int):Option Nl:=(gi gs k gs.length).map fun p=>kK (vol p.1) p.2
def dR (x:Nl):List PV:= .sc (.int .u64 x.key)::x.row
def nB (x:Nl):List Nl→List Nl
 |[]=> [x]
 |y::l=>if x.key=y.key then x::l else y::nB x l
def iE (k:Int):List Nl→List Nl
 |[]=> []
 |y::l=>if k=y.key then l else y::iE k l
def gl (k:Int):List Nl→Option Nl
 |[]=>none
 |y::l=>if k=y.key then some y else gl k l
theorem KB (z) (y:Nl):fS z (dR y)=(z==y.key):=rfl
theorem WD (x:Nl):∀l:List Nl,nU x.key x.row (l.map dR)=(nB x l).map dR
 |[]=>rfl
 |y::l=>by
  rw[cu,nU,nB,KB];by_cases h:x.key=y.key
  · rw[ay (by simp[h]),ay h];rfl
  · rw[aC (by simp[h]),aC h,WD x l];rfl
theorem Er (k:Int):∀l:List Nl,nP k (l.map dR)=(iE k l).map dR
 |[]=>rfl
 |y::l=>by
  rw[cu,nP,iE,KB];by_cases h:k=y.key
  · rw[ay (by simp[h]),ay h]
  · rw[aC (by simp[h]),aC h,Er k l];rfl
theorem XX (k:Int):∀l:List Nl,hZ k (l.map dR)=(gl k l).map Nl.row
 |[]=>rfl
 |y::l=>by
  rw[cu,hZ,gl,KB];by_cases h:k=y.key
  · rw[ay (by simp[h]),ay h];rfl
  · rw[aC (by simp[h]),aC h,XX k l]
def oJ (l:List Nl):Prop:=l.Pairwise fun a b=>a.key≠b.key
theorem ZQ {x y:Nl}:∀{l:List Nl},y∈nB x l→y=x∨y∈l
 |[],h=> .inl (tn.1 h)
 |z::l,h=>by
  rw[nB]at h;split at h
  · rcases dL.1 h with h|h
    · exact .inl h
    · exact .inr (iM _ h)
  · rcases dL.1 h with h|h
    · exact .inr (h▸iL)
    · rcases ZQ h with h|h
      · exact .inl h
      · exact .inr (iM _ h)
theorem RJ {k} {y:Nl}:∀{l:List Nl},y∈iE k l→y∈l
 |[],h=>h
 |z::l,h=>by
  rw[iE]at h;split at h
  · exact iM _ h
  · rcases dL.1 h with h|h
    · exact h▸iL
    · exact iM _ (RJ h)
theorem oJ.put {x:Nl}:∀{l:List Nl},oJ l→oJ (nB x l)
 |[],_=>List.pairwise_singleton _ _
 |y::l,h=>by
  have h':=gf.1 h;rw[nB];split
  · rename_i e;exact gf.2 ⟨fun z hz=>by rw[e];exact h'.1 z hz,h'.2⟩
  · rename_i e;refine gf.2 ⟨fun z hz=> ?_,oJ.put h'.2⟩;rcases ZQ hz with rfl|hz
    · exact fun e'=>e e'.symm
    · exact h'.1 z hz
theorem oJ.del {k}:∀{l:List Nl},oJ l→oJ (iE k l)
 |[],h=>h
 |y::l,h=>by
  have h':=gf.1 h;rw[iE];split
  · exact h'.2
  · exact gf.2 ⟨fun z hz=>h'.1 z (RJ hz),oJ.del h'.2⟩
theorem Sg {x:Nl} {k}:∀{l:List Nl},gl k (nB x l)=if k=x.key then some x else gl k l
 |[]=>rfl
 |y::l=>by
  rw[nB];by_cases e:x.key=y.key
  · rw[ay e,gl,gl,e];by_cases h:k=y.key
    · rw[ay h,ay h]
    · rw[aC h,aC h,aC h]
  · rw[aC e,gl,gl,Sg (l:=l)];by_cases h:k=y.key
    · rw[ay h,aC om,ay h]
    · rw[aC h,aC h]
theorem VM {k}:∀{l:List Nl},(∀y∈l,y.key≠k)→gl k l=none
 |[],_=>rfl
 |y::l,h=>by rw[gl,aC (fun e=>h y iL e.symm),VM fun z hz=>h z (iM _ hz)]
theorem GD {k' k}:∀{l:List Nl},oJ l→gl k (iE k' l)=if k=k' then none else gl k l
 |[],_=>by rw[iE,gl];split<;>rfl
 |y::l,h=>by
  have h':=gf.1 h;rw[iE];by_cases e:k'=y.key
  · rw[ay e,gl];by_cases h2:k=k'
    · rw[ay h2];exact VM fun z hz e'=>h'.1 z hz om
    · rw[aC h2,aC om]
  · rw[aC e,gl,gl,GD h'.2];by_cases h2:k=y.key
    · rw[ay h2,aC om,ay h2]
    · rw[aC h2,aC h2]
end
section
open Go.RowKit AI
def TZ:=rG XF []
theorem amO:Gk TZ Fe:=rK [] trivial
def JM:List L→Option (List L):=nE
theorem M7:Gk JM nE:=fun _ _ h=>h
def QW:=rG Vg [(2021,JM)]
theorem apa:Gk QW Fc:=rK [(2021,nE)] ⟨aZ rfl M7,trivial⟩
def XZ:List L→Option (List L):=tU
theorem axA:Gk XZ tU:=fun _ _ h=>h
def KP:=rG Yk [(332,TZ),(2021,JM),(331,QW),(2022,XZ)]
theorem W_:Gk KP yk:=rK [(332,Fe),(2021,nE),(2021,nE),(331,Fc),(2022,tU)] ⟨aZ rfl amO,aZ rfl M7,aZ rfl M7,aZ rfl apa,aZ rfl axA,trivial⟩
def Rv:=rG Yj [(336,KP)]
theorem att:Gk Rv A9:=rK [(336,yk)] ⟨aZ rfl W_,trivial⟩
def T9:=rG UO []
theorem aei:Gk T9 De:=rK [] trivial
def YD:=rG W7 []
theorem LU:Gk YD sF:=rK [] trivial
def LJ:=rG WO [(54,T9),(53,YD)]
theorem QZ:Gk LJ yh:=rK [(54,De),(53,sF),(53,sF),(53,sF)] ⟨aZ rfl aei,aZ rfl LU,aZ rfl LU,aZ rfl LU,trivial⟩
def V':=rG R5 [(55,LJ)]
theorem aBa:Gk V' qB:=rK [(55,yh)] ⟨aZ rfl QZ,trivial⟩
def Xu:=rG Y5 [(55,LJ)]
theorem akf:Gk Xu DX:=rK [(55,yh)] ⟨aZ rfl QZ,trivial⟩
def Fu (t:Nat):Nat:=cond (Nat.beq t 0) 1 (cond (Nat.beq t 1) 3 4)
def eA (t:Nat):Nat:=cond (Nat.beq t 0) 0 (cond (Nat.beq t 1) 1 8)
theorem afB:(List.range 24).all (fun j=>xA (V' [.i (Fu (j/8):Nat),.i 1,.i (j%8+1:Nat)]) [.s (nm (9*(j%8)+eA (j/8)))])=true:=kr
theorem ajd:(List.range 24).all (fun j=>cond (Nat.beq (j/8) 1) true (xA (Rv [.i (Fu (j/8):Nat),.i 1,.i (j%8+1:Nat)]) [.s (nm (9*(j%8)+eA (j/8)))]))=true:=kr
theorem acC:(List.range 48).all (fun j=>xA (Xu [.i 1,.i (j%8+1:Nat),.i (j/8:Nat)]) [.s (nm (9*(j%8)+(2+j/8)))])=true:=kr
theorem afv:(List.range 48).all (fun j=>xA (KP [.i 5,.i 1,.i (j%8+1:Nat),.i (j/8:Nat),.b false]) [.s (nm (9*(j%8)+(2+j/8))),.i 0])=true:=kr
theorem x1 {n t:Nat} (hn:n<8) (ht:t<3):qB [.i (Fu t:Nat),.i 1,.i (n+1:Nat)]=some [.s (nm (9*n+eA t))]:=by
 have:=aBa _ _ (Bs (bC.1 afB _ (lJ.2 (show t*8+n<24 by omega))))
 rwa [show(t*8+n) /8=t by omega,show(t*8+n)%8=n by omega]at this
theorem Xf {n t:Nat} (hn:n<8) (ht:t<3) (h1:t≠1):A9 [.i (Fu t:Nat),.i 1,.i (n+1:Nat)]=some [.s (nm (9*n+eA t))]:=by
 have:=bC.1 ajd _ (lJ.2 (show t*8+n<24 by omega));rw[show(t*8+n) /8=t by omega,show(t*8+n)%8=n by omega,show Nat.beq t 1=false from H8.2 fun h=>h1 (abO h)]at this;exact att _ _ (Bs this)
theorem apg {n k:Nat} (hn:n<8) (hk:k<6):DX [.i 1,.i (n+1:Nat),.i k]=some [.s (nm (9*n+(2+k)))]:=by
 have:=akf _ _ (Bs (bC.1 acC _ (lJ.2 (show k*8+n<48 by omega))))
 rwa [show(k*8+n) /8=k by omega,show(k*8+n)%8=n by omega]at this
theorem ali {n k:Nat} (hn:n<8) (hk:k<6):yk [.i 5,.i 1,.i (n+1:Nat),.i k,.b false]=some [.s (nm (9*n+(2+k))),.i 0]:=by
 have:=W_ _ _ (Bs (bC.1 afv _ (lJ.2 (show k*8+n<48 by omega))))
 rwa [show(k*8+n) /8=k by omega,show(k*8+n)%8=n by omega]at this
end
section
open Go.RowKit Pl AI
attribute [local irreducible] ae.wp
theorem Inv.okF {f gs vol B} (h:Inv f gs vol B) (hB:B≤1000000):eZ f:=fun j b hj=> ⟨(h.fb j b hj).1,by have:=(h.fb j b hj).2;omega⟩
theorem Sw {f gs vol B} (h:Inv f gs vol B) (j):B8 (e7 f j)∧(e7 f j).length≤B:=by
 unfold e7
 cases hf:f j with
 |none=>exact⟨fun x hx=> (by cases hx),fm _⟩
 |some b=>exact h.fb j b hf
theorem ZW {f} (hf:eZ f) (gs:List Ge) (data:L) {n:Nat} (hn:n<8) (ja:f (9*n)=none):
  Ep (dA (bL f)++sA gs++ [data,.i (n+1:Nat)])=some (dA (bL (cj f (9*n) (some (iz 1 ((n+1:Nat):Int) 0))))):=by
 have hg:e7 f (9*n)=[]:=by unfold e7;rw[ja]
 have hw:=(wI hf (j:=9*n) om (x:=iz 1 ((n+1:Nat):Int) 0) ⟨uw _ _ _,by rw[qp];omega⟩ (by rw[hg];show(iz _ _ _).length≤_;rw[qp];omega) (.i 1) (.i 9000) (.b false) (.r (gs.map gR)) data).1;rw[hg,mm]at hw;refine aH ?_;refine ag (avC 1 ((n+1:Nat):Int) 0 om) rfl rfl (nW ?_);refine ag (x1 (t:=0) hn dc) rfl rfl (nW ?_);refine ag hw rfl rfl (nW ?_);exact ad rfl
def lu (gs:List Ge) (x:Nl):List Ge:=gs.set (bP gs).n ((bP gs).add x)
def sg (f:Fs) (gs:List Ge) (x:Nl):Fs:=cj f (9*(bP gs).n) (some (e7 f (9*(bP gs).n)++fW x.key x.cookie x.del x.data))
def o6 (ds:List Nl) (x:Nl):List Nl:=if x.del=true then iE x.key ds else nB x ds
theorem Ge.Nz (e:Ge) (x):(e.add x).n=e.n∧(e.add x).mode=e.mode:=by
 unfold Ge.add;split<;>exact⟨rfl,rfl⟩
theorem dp.set {gs} (h:dp gs) {e:Ge} (he:fr e) (hn:e.n<gs.length) (hm:e.mode=1 ↔ e.n=gs.length-1):dp (gs.set e.n e):=by
 have h1:=h.n1;have h8:=h.n8;refine⟨by rw[ox];exact h1,by rw[ox];exact h8,fun i hi=> ?_⟩;rw[ox]at hi⊢;by_cases hx:e.n=i
 · subst hx;rw[List.getElem_set_self];exact⟨he,rfl,hm⟩
 · rw[Ib hx];exact h.ok i hi
theorem Xz {gs} (h:dp gs) {x} (hx:jO x) (hs:(bP gs).size+bU x.data.length≤17000):dp (lu gs x):=by
 have hl:=kY h;have h1:=h.n1;have ha:=Ge.Nz (bP gs) x;have:=dp.set h (hl.1.add hx hs) (by rw[ha.1];omega) (by rw[ha.1,ha.2,hl.2.1,hl.2.2];exact⟨fun _=>rfl,fun _=>rfl⟩)
 rwa [ha.1]at this
theorem WN {f} (hf:eZ f) {gs} (h:dp gs) {ds:List Nl} {x} (hx:jO x) (hs:(bP gs).size+bU x.data.length≤17000) (hg:(e7 f (9*(bP gs).n)).length≤1000000):
   zQ (dA (bL f)++sA gs++ [.r (ds.map dR),.r [x.row]])=some (.b true::dA (bL (sg f gs x))++sA (lu gs x)++ [.r ((o6 ds x).map dR)]):=by
 have hl:=kY h;have h1:=h.n1;have ha:=Ge.Nz (bP gs) x;have hsz:=rV x.data.length;have kf:=hx.len;have cW:=Gy x.key x.cookie x.del x.data;have hch:=Iy h (e:=(bP gs).add x) (by rw[ha.1];omega) (by rw[ha.1];exact Xz h hx hs);rw[ha.1]at hch;have hre:=ahj (key:=x.key) (cookie:=x.cookie) (del:=x.del) (data:=x.data) om hx.d hx.k0 hx.c0 hx.c4;have hw:=(wI hf (j:=9*(bP gs).n) (by have:=hl.1.n8;omega) (x:=fW x.key x.cookie x.del x.data) ⟨Ix _ _ _ hx.b,om⟩ (by rw[bE];omega) (.i 1) (.i 9000) (.b false) (.r ((lu gs x).map gR)) (.r (ds.map dR))).1;refine aH ?_;refine ag (Vf h) rfl rfl (nW ?_);refine ag (aoX hl.1 hl.2.2 hx) rfl rfl (nW ?_);refine ag hch rfl rfl (nW ?_);refine aB (fun xs=>xs=[.b false]) ?_ ?_
 · refine uR ?_;refine ba rfl oO (uR ?_);exact ad rfl
 rintro _ rfl;refine nW ?_;refine bj rfl ?_;refine aB (fun xs=>xs=dA (bL (sg f gs x))++ [.r ((o6 ds x).map dR)]) ?_ ?_;rotate_left
 · rintro _ rfl;refine nW ?_;exact ad rfl
 refine wp_loop (I:=fun a=>a= .i 0::dA (bL f)++ [.r (ds.map dR)]∨a= .i 1::dA (bL (sg f gs x))++ [.r ((o6 ds x).map dR)]) (mu:=fun a=>match a with| .i i::_=>1-i.toNat|_=>0) (.inl rfl) ?_;rintro a (rfl|rfl);rotate_left
 · refine uR ?_;refine ba rfl oO ?_;exact ad rfl
 refine uR ?_;refine cS rfl oO ?_;refine aB (fun xs=>xs=[.i 0,.i (-1),.r ((o6 ds x).map dR),.r ((bL (sg f gs x)).map aQ)]) ?_ ?_;rotate_left
 · rintro _ rfl;refine nW ?_;refine bg (i:=0) rfl om (nW ?_);exact ad ⟨.inr rfl,by show 1- (1:Int).toNat<1- (0:Int).toNat;decide⟩
 refine iC (r:=x.row) oO rfl rfl (uR ?_);refine ag hre rfl rfl (nW ?_);refine ag (x1 (n:=(bP gs).n) (t:=0) hl.1.n8 dc) rfl rfl (nW ?_);refine ag hw rfl rfl (nW ?_);refine iC (r:=x.row) oO rfl rfl (uR ?_);by_cases hd:x.del=true
 · have ed:o6 ds x=iE x.key ds:=ay hd;refine dX hd ?_;refine iC (r:=x.row) oO rfl rfl (uR ?_);refine ag (l:=[.r ((o6 ds x).map dR)]) (by rw[ed,←Er];rfl) rfl rfl (nW ?_);exact ad rfl
 · have ed:o6 ds x=nB x ds:=aC hd;refine bj (by show x.del=false;simpa using hd) ?_;refine iC (r:=x.row) oO rfl rfl (uR ?_);refine iC (r:=x.row) oO rfl rfl (uR ?_);refine ag (l:=[.r ((o6 ds x).map dR)]) (by rw[ed,←WD];rfl) rfl rfl (nW ?_);exact ad rfl
def Dw (f:Fs) (gs:List Ge):Fs:=
 let f1:=cj f (9*gs.length) (some (iz 1 ((gs.length+1:Nat):Int) 0))
 cj f1 (9*(gs.length-1)+1) (some (e7 f1 (9*(gs.length-1)+1)))
theorem atZ {f} (hf:eZ f) {gs} (h:dp gs) (ja:f (9*gs.length)=none) (data:L):
   F_ (dA (bL f)++sA gs++ [data])=some (if gs.length<8 then .b true::dA (bL (Dw f gs))++sA (dv gs)else .b false::dA (bL f)++sA gs):=by
 have h1:=h.n1;by_cases h8:gs.length<8
 · rw[ay h8];have cg:=kY h;obtain⟨hl,e⟩:=tZ h;obtain⟨f1,oc⟩:∃f1,cj f (9*gs.length) (some (iz 1 ((gs.length+1:Nat):Int) 0))=f1:=⟨_,rfl⟩
   have abg:eZ f1:=by
    rw[←oc];exact hf.cj fun y hy=>by cases hy;exact⟨uw _ _ _,by rw[qp];omega⟩
   have CA:=ZW hf (dv gs) data h8 ja;rw[oc]at CA;have kQ:(e7 f1 (9*(gs.length-1)+1)).length≤1048576:=by
    unfold e7
    cases hq:f1 (9*(gs.length-1)+1)with
    |none=>exact fm _
    |some b=>exact(abg _ b hq).2
   have hw:=(wI abg (j:=9*(gs.length-1)+1) om (x:=[]) ⟨fun y hy=> (by cases hy),dc⟩ (by rw[eW];exact kQ) (.i 1) (.i 9000) (.b false) (.r ((dv gs).map gR)) data).2;rw[eW]at hw;have O':Dw f gs=cj f1 (9*(gs.length-1)+1) (some (e7 f1 (9*(gs.length-1)+1))):=by rw[←oc];rfl
   rw[O'];refine aH ?_;refine ag (awm h h8) rfl rfl (uR ?_);refine ba rfl oO (uR ?_);rw[aA];refine ck (n:=((gs.length-1:Nat):Int)) (by show(gs.length:Int) -1=_;omega) om om (nW ?_);refine aP (f:=gR) (l:=gs) (j:=gs.length-1) rfl rfl hl rfl ?_;rw[e];refine uR ?_;refine cm (n:=((gs.length+1:Nat):Int)) (by show(((bP gs).n+1:Nat):Int)+1=_;omega) om om (nW ?_);refine ag CA rfl rfl (nW ?_);have kb:=x1 (n:=gs.length-1) (t:=1) om dc;rw[←cg.2.1]at kb;refine ag kb rfl rfl ?_;rw[cg.2.1];refine nW ?_;refine ag hw rfl rfl (nW ?_);exact ad rfl
 · rw[aC h8];refine aH ?_;refine ag (auB h h8) rfl rfl (uR ?_);refine cS rfl oO ?_;exact ad rfl
end
section
open Go.RowKit Pl
theorem Ev {gs:List Ge} {i:Nat} {e:Ge} (hi:i<gs.length) (h):(gs.set i e)[i]'h=e:=List.getElem_set_self _
theorem x6 {gs} (h:dp gs):∃hl:(bP gs).n<gs.length,gs[(bP gs).n]=bP gs:=by
 obtain⟨hl,e⟩:=tZ h;have:=(kY h).2.1;refine⟨om,?_⟩;have h2:gs[(bP gs).n]? =gs[gs.length-1]?:=by rw[this]
 rw[bW om,bW hl]at h2;rw[rJ h2];exact e
theorem Inv.top {f gs vol B} (h:Inv f gs vol B):f (9*(bP gs).n)=some (vol (bP gs).n)∧e7 f (9*(bP gs).n)=vol (bP gs).n∧((vol (bP gs).n).length:Int)=(bP gs).size∧(vol (bP gs).n).length≤B:=by
 obtain⟨hl,e⟩:=x6 h.s;have h1:=(h.op _ hl (by rw[e,(kY h.s).2.2];decide)).1;have h2:=h.vb _ hl;rw[e]at h2;exact⟨h1,by unfold e7;rw[h1],h2.2.1,h2.2.2.1⟩
def ph (gs:List Ge) (vol:Nat→List Nat) (x:Nl):Nat→List Nat:=fun i=>if i=(bP gs).n then vol i++fW x.key x.cookie x.del x.data else vol i
theorem fr.GW {e:Ge} (h:fr e) {x} (hx:x∈e.l) {D:List Nat} (hD:(D.length:Int)=e.size):ends x≤D.length:=by rw[hD];exact h.en x hx
theorem Inv.add {f gs vol B} (h:Inv f gs vol B) (hB:B≤16000) {x} (hx:jO x):Inv (sg f gs x) (lu gs x) (ph gs vol x) (B+56):=by
 obtain⟨hl,he⟩:=x6 h.s;obtain⟨t1,t2,t3,t4⟩:=h.top;have cg:=kY h.s;have hsz:=G2 hx.len;have hen:=Gy x.key x.cookie x.del x.data;have ma:=rV x.data.length;have kf:=hx.len;have aEf:bU x.data.length=((bM x.data.length:Nat):Int):=zP om;have Hs:(bP gs).size+bU x.data.length≤17000:=om;have aO:=Xz h.s hx Hs;have hz:=Ge.JB cg.1.s.v.1 hx;have hn:=Ge.Nz (bP gs) x;have hlen:(lu gs x).length=gs.length:=ox;have qU:sg f gs x=cj f (9*(bP gs).n) (some (vol (bP gs).n++fW x.key x.cookie x.del x.data)):=by unfold sg;rw[t2]
 have Pa:ph gs vol x (bP gs).n=vol (bP gs).n++fW x.key x.cookie x.del x.data:=ay rfl;have rq:∀i,i≠(bP gs).n→ph gs vol x i=vol i:=fun i hi=>aC hi
 have ee:∀hZ,(lu gs x)[(bP gs).n]'hZ=(bP gs).add x:=fun hZ=>Ev hl hZ
 have l_:∀i (hZ:i< (lu gs x).length),i≠(bP gs).n→(lu gs x)[i]'hZ=gs[i]'om:=fun i hZ hi=>Ib (fun e=>hi e.symm) _
 have hB8:B8 (vol (bP gs).n++fW x.key x.cookie x.del x.data):=fp (h.vb _ hl).1 (Ix _ _ _ hx.b);refine⟨aO,fun j b hj=> ?_,fun i hi=> ?_,fun i hi y hy=> ?_,fun i hi hm=> ?_,fun i hi hm=> ?_,fun j hj=> ?_⟩
 · rw[qU]at hj;by_cases e:j=9*(bP gs).n
   · subst e;rw[jw]at hj;cases hj;exact⟨hB8,by rw[bE];omega⟩
   · rw[cV e]at hj;have:=h.fb j b hj;exact⟨this.1,om⟩
 · by_cases e:i=(bP gs).n
   · subst e;obtain⟨r,hr,kg⟩:=(h.vb _ hl).2.2.2;rw[Pa,ee];refine⟨hB8,?_,by rw[bE];omega,r++fW x.key x.cookie x.del x.data,fp hr (Ix _ _ _ hx.b),by rw[kg,cd]⟩;rw[hz,bE,hen,aEf];omega
   · rw[rq i e,l_ i hi e];have:=h.vb i om;exact⟨this.1,this.2.1,om,this.2.2.2⟩
 · by_cases e:i=(bP gs).n
   · subst e;rw[Pa];rw[ee]at hy;have old:∀y∈(bP gs).l,mG (vol (bP gs).n++fW x.key x.cookie x.del x.data) y:=fun y hy=>by
       have h1:=h.rc _ hl;rw[he]at h1;exact(mG.app (h1 y hy) (cg.1.s.v.2 y hy) (cg.1.GW hy t3)).1
     unfold Ge.add at hy;by_cases hd:x.del=true
     · rw[ay hd]at hy;exact old y (qM.1 hy).1
     · rw[aC hd]at hy;rcases uv hy with rfl|hy
       · have:=(mG.new (D:=vol (bP gs).n) hx (by simpa using hd)).1;unfold Ge.item;rw[←t3];exact this
       · exact old y hy
   · rw[rq i e];rw[l_ i hi e]at hy;exact h.rc i om y hy
 · by_cases e:i=(bP gs).n
   · subst e;have h1:=h.op _ hl (by rw[he,cg.2.2];decide);rw[qU,Pa,jw];refine⟨rfl,fun k hk bZ=> ?_⟩;rw[cV om];exact h1.2 k hk bZ
   · rw[l_ i hi e]at hm;have h1:=h.op i om hm;rw[qU,rq i e,cV om];refine⟨h1.1,fun k hk bZ=> ?_⟩;rw[cV om];exact h1.2 k hk bZ
 · by_cases e:i=(bP gs).n
   · subst e;rw[ee,hn.2,cg.2.2]at hm;exact absurd hm dc
   · rw[l_ i hi e]at hm⊢;obtain⟨its,h1⟩:=h.cl i om hm;rw[rq i e,qU];refine⟨its,h1.h,h1.e,h1.n,h1.m,?_,fun k hk=> ?_⟩
     · rw[cV om];exact h1.x
     · rw[cV om];exact h1.s k hk
 · rw[hlen]at hj;rw[qU,cV (by have:=cg.2.1;omega)];exact h.ft j hj
theorem G' {gs gs':List Ge} {vol jc:Nat→List Nat} {k} (hl:gs'.length=gs.length) (h:∀i,i<gs.length→look gs' i k=look gs i k) (hv:∀i x,i<gs.length→look gs i k=some x→kK (jc i) x=kK (vol i) x):has gs' jc k=has gs vol k:=by
 unfold has;rw[hl,L4 h]
 cases hs:gi gs k gs.length with
 |none=>rfl
 |some p=>
  have:=AJ hs;show some (kK (jc p.1) p.2)=some (kK (vol p.1) p.2);rw[hv p.1 p.2 this.1 this.2]
theorem Dj {gs:List Ge} {i j:Nat} {e:Ge} (hi:i<gs.length) (k):look (gs.set i e) j k=if j=i then bG e.l k else look gs j k:=by
 unfold look;by_cases h:j=i
 · subst h;rw[ay rfl,jA (by rw[ox];exact hi),Ev hi]
 · rw[aC h,mo,mo,zm (fun e=>h e.symm)]
theorem I7 {gs} (h:dp gs) (k):look gs (bP gs).n k=bG (bP gs).l k:=by
 obtain⟨hl,e⟩:=x6 h;rw[rX hl,e]
theorem NO {gs i k x} (h:look gs i k=some x) (hi:i<gs.length):x∈gs[i].l:=by
 rw[rX hi]at h;exact(zH h).1
theorem LV {gs} (h:dp gs) (x) (j) (k):look (lu gs x) j k=if j=(bP gs).n then(if k=x.key then(if x.del=true then none else some ((bP gs).item x))else look gs j k)else look gs j k:=by
 obtain⟨hl,e⟩:=x6 h;have ha:=(kY h).1.s.v.1;unfold lu;rw[Dj hl];by_cases hj:j=(bP gs).n
 · subst hj;rw[ay rfl,ay rfl,I7 h];unfold Ge.add;by_cases hd:x.del=true
   · rw[ay hd,Iw ha];by_cases hk:k=x.key
     · rw[ay hk,ay hk,ay hd]
     · rw[aC hk,aC hk]
   · rw[aC hd,azd ha];show(if k=x.key then _ else _)=_;by_cases hk:k=x.key
     · rw[ay hk,ay hk,aC hd]
     · rw[aC hk,aC hk]
 · rw[aC hj,aC hj]
theorem SA {f gs vol B} (h:Inv f gs vol B) (y:Nl) {i} (hi:i<gs.length) {x} (hx:x∈gs[i].l):kK (ph gs vol y i) x=kK (vol i) x:=by
 unfold ph;by_cases e:i=(bP gs).n
 · rw[ay e];have aO:=(h.s.ok i hi).1;have:=(mG.app (E:=fW y.key y.cookie y.del y.data) (h.rc i hi x hx) (aO.s.v.2 x hx) (aO.GW hx (h.vb i hi).2.1)).2;unfold kK;rw[this]
 · rw[aC e]
theorem avm {f gs vol B} (h:Inv f gs vol B) {x} (hx:jO x) (hd:x.del=false) (k):has (lu gs x) (ph gs vol x) k=if k=x.key then some x else has gs vol k:=by
 obtain⟨t1,t2,t3,t4⟩:=h.top;have cg:=kY h.s;have kh:=h.s.n1;have hlen:(lu gs x).length=gs.length:=ox;by_cases hk:k=x.key
 · rw[ay hk];unfold has;rw[hlen,show gs.length=(bP gs).n+1 by omega,gi,LV h.s,ay rfl,ay hk,aC (by rw[hd];decide)];show some (kK (ph gs vol x (bP gs).n) ((bP gs).item x))=some x;unfold ph Ge.item;rw[ay rfl,←t3,(mG.new hx hd).2]
 · rw[aC hk];refine G' hlen (fun i hi=> ?_) (fun i y hi hy=>SA h x hi (NO hy hi));rw[LV h.s];by_cases hj:i=(bP gs).n
   · rw[ay hj,aC hk]
   · rw[aC hj]
theorem Inv.kill {f gs vol B} (h:Inv f gs vol B) {i:Nat} (hi:i<gs.length) (hm:gs[i].mode≠1) (k:Int):Inv f (gs.set i (gs[i].del k)) vol B:=by
 have hg:=h.s.ok i hi;have hs:=dp.set h.s (hg.1.del k) (by show gs[i].n<_;omega) (by show gs[i].mode=1 ↔ gs[i].n=_;rw[hg.2.1];exact hg.2.2);have hs:dp (gs.set i (gs[i].del k)):=by rwa [show(gs[i].del k).n=i from hg.2.1]at hs
 have hlen:(gs.set i (gs[i].del k)).length=gs.length:=ox;have key:∀j (hj:j< (gs.set i (gs[i].del k)).length),∃hj':j<gs.length,(gs.set i (gs[i].del k))[j].size=gs[j].size∧(gs.set i (gs[i].del k))[j].mode=gs[j].mode∧∀y∈(gs.set i (gs[i].del k))[j].l,y∈gs[j].l:=fun j hj=>by
   refine⟨om,?_⟩;by_cases e:i=j
   · subst e;rw[Ev hi];exact⟨Ge.M2 hg.1.s.v.1 k,rfl,fun y hy=> (qM.1 hy).1⟩
   · rw[Ib e];exact⟨rfl,rfl,fun y hy=>hy⟩
 refine⟨hs,h.fb,fun j hj=> ?_,fun j hj y hy=> ?_,fun j hj hm=> ?_,fun j hj hm=> ?_,fun j hj=> ?_⟩
 · obtain⟨hj',k1,k2,k3⟩:=key j hj;rw[k1];exact h.vb j hj'
 · obtain⟨hj',k1,k2,k3⟩:=key j hj;exact h.rc j hj' y (k3 y hy)
 · obtain⟨hj',k1,k2,k3⟩:=key j hj;rw[k2]at hm;exact h.op j hj' hm
 · obtain⟨hj',k1,k2,k3⟩:=key j hj;rw[k2]at hm;obtain⟨its,h1⟩:=h.cl j hj' hm;exact⟨its,h1.h,h1.e,h1.n,fun y hy=>h1.m y (k3 y hy),h1.x,h1.s⟩
 · rw[hlen]at hj;exact h.ft j hj
theorem Inv.Xo {f gs vol B} (h:Inv f gs vol B) {i:Nat} (hi:i<gs.length) {b} (hb:B8 b) {B'} (hl:b.length≤B') (hB:B≤B'):Inv (cj f (9*i+1) (some b)) gs vol B':=by
 refine⟨h.s,fun j c hj=> ?_,fun j hj=> ?_,h.rc,fun j hj hm=> ?_,fun j hj hm=> ?_,fun j hj=> ?_⟩
 · by_cases e:j=9*i+1
   · subst e;rw[jw]at hj;cases hj;exact⟨hb,hl⟩
   · rw[cV e]at hj;have:=h.fb j c hj;exact⟨this.1,om⟩
 · have:=h.vb j hj;exact⟨this.1,this.2.1,om,this.2.2.2⟩
 · have h1:=h.op j hj hm;rw[cV om];refine⟨h1.1,fun k hk bZ=> ?_⟩;rw[cV om];exact h1.2 k hk bZ
 · obtain⟨its,h1⟩:=h.cl j hj hm;refine⟨its,h1.h,h1.e,h1.n,h1.m,?_,fun k hk=> ?_⟩
   · rw[cV om];exact h1.x
   · rw[cV om];exact h1.s k hk
 · rw[cV om];exact h.ft j hj
def rM (gs:List Ge) (vol:Nat→List Nat):Nat→List Nat:=fun i=>if i=gs.length then iz 1 ((gs.length+1:Nat):Int) 0 else vol i
theorem GA {gs} (h:dp gs):(dv gs).length=gs.length+1:=by
 have:=h.n1;unfold dv;simp;omega
theorem Lh {gs} (h:dp gs) {i} (hi:i< (dv gs).length):(i<gs.length-1∧∃h':i<gs.length,(dv gs)[i]=gs[i])∨(i=gs.length-1∧(dv gs)[i]=dB (bP gs))∨(i=gs.length∧(dv gs)[i]=lL gs.length):=by
 have kh:=h.n1;have hlen:=GA h;have hat:∀{y},(dv gs)[i]? =some y→(dv gs)[i]=y:=fun h=>by
   rw[bW hi]at h;exact rJ h
 by_cases h1:i<gs.length-1
 · refine .inl ⟨h1,om,hat ?_⟩;unfold dv;rw[rF (by rw[cL];omega),List.getElem?_take_of_lt h1,bW]
 · by_cases h2:i=gs.length-1
   · refine .inr (.inl ⟨h2,hat ?_⟩);unfold dv;rw[mh (by rw[cL];omega),cL,show i-min (gs.length-1) gs.length=0 by omega];rfl
   · refine .inr (.inr ⟨om,hat ?_⟩);unfold dv;rw[mh (by rw[cL];omega),cL,show i-min (gs.length-1) gs.length=1 by omega];rfl
theorem Inv.rot {f gs vol B} (h:Inv f gs vol B) (h8:gs.length<8):Inv (Dw f gs) (dv gs) (rM gs vol) (B+248):=by
 have kh:=h.s.n1;have hlen:=GA h.s;have cg:=kY h.s;obtain⟨hl,he⟩:=x6 h.s;obtain⟨f1,oc⟩:∃f1,cj f (9*gs.length) (some (iz 1 ((gs.length+1:Nat):Int) 0))=f1:=⟨_,rfl⟩
 have O':Dw f gs=cj f1 (9*(gs.length-1)+1) (some (e7 f1 (9*(gs.length-1)+1))):=by rw[←oc];rfl
 have HW:∀i,i<gs.length→rM gs vol i=vol i:=fun i hi=>aC om
 have rq:rM gs vol gs.length=iz 1 ((gs.length+1:Nat):Int) 0:=ay rfl;have main:Inv f1 (dv gs) (rM gs vol) (B+248):=by
  rw[←oc];have old:∀i (hi:i< (dv gs).length),i≠gs.length→∃h':i<gs.length,(dv gs)[i].size=gs[i].size∧(dv gs)[i].l=gs[i].l∧(((dv gs)[i].mode=3) ↔ gs[i].mode=3):=fun i hi hne=>by
    rcases Lh h.s hi with⟨_,h',e⟩| ⟨e1,e⟩| ⟨e1,_⟩
    · exact⟨h',by rw[e],by rw[e],by rw[e]⟩
    · refine⟨om,?_⟩;have e2:gs[i]'om=bP gs:=by
       obtain⟨_,e3⟩:=tZ h.s;have:gs[i]? =gs[gs.length-1]?:=by rw[e1]
       rw[bW om,bW om]at this;rw[rJ this];exact e3
      rw[e,e2];exact⟨rfl,rfl,⟨fun h=>by have h:(2:Int)=3:=h;omega,fun h=>by rw[cg.2.2]at h;omega⟩⟩
    · exact absurd e1 hne
  have new:∀(hi:gs.length< (dv gs).length),(dv gs)[gs.length]=lL gs.length:=fun hi=>by
    rcases Lh h.s hi with⟨e1,_⟩| ⟨e1,e⟩| ⟨_,e⟩
    · omega
    · omega
    · exact e
  refine⟨axw h.s h8,fun j b hj=> ?_,fun i hi=> ?_,fun i hi y hy=> ?_,fun i hi hm=> ?_,fun i hi hm=> ?_,fun j hj=> ?_⟩
  · by_cases e:j=9*gs.length
    · subst e;rw[jw]at hj;cases hj;exact⟨uw _ _ _,by rw[qp];omega⟩
    · rw[cV e]at hj;have:=h.fb j b hj;exact⟨this.1,om⟩
  · by_cases e:i=gs.length
    · subst e;rw[rq,new];exact⟨uw _ _ _,by rw[qp];rfl,by rw[qp];omega,[],fun x hx=> (by cases hx),by rw[eW]⟩
    · obtain⟨h',k1,k2,k3⟩:=old i hi e;have:=h.vb i h';rw[HW i h',k1];exact⟨this.1,this.2.1,om,this.2.2.2⟩
  · by_cases e:i=gs.length
    · subst e;rw[new]at hy;cases hy
    · obtain⟨h',k1,k2,k3⟩:=old i hi e;rw[k2]at hy;rw[HW i h'];exact h.rc i h' y hy
  · by_cases e:i=gs.length
    · subst e;rw[rq,jw];exact⟨rfl,fun k hk bZ=>by rw[cV om];exact h.ft _ om⟩
    · obtain⟨h',k1,k2,k3⟩:=old i hi e;have h1:=h.op i h' fun h3=>hm (k3.2 h3)
      rw[HW i h',cV om];exact⟨h1.1,fun k hk bZ=>by rw[cV om];exact h1.2 k hk bZ⟩
  · by_cases e:i=gs.length
    · subst e;rw[new]at hm;have hm:(1:Int)=3:=hm;omega
    · obtain⟨h',k1,k2,k3⟩:=old i hi e;obtain⟨its,h1⟩:=h.cl i h' (k3.1 hm);rw[HW i h',k2];exact⟨its,h1.h,h1.e,h1.n,h1.m,by rw[cV om];exact h1.x,fun k hk=>by rw[cV om];exact h1.s k hk⟩
  · rw[cV om];exact h.ft j om
 rw[O'];have hg:=Sw main (9*(gs.length-1)+1);exact main.Xo om hg.1 hg.2 (cn _)
theorem VI {gs} (h:dp gs) (i) (k):look (dv gs) i k=look gs i k:=by
 have hlen:=GA h;by_cases hi:i< (dv gs).length
 · rw[rX hi];rcases Lh h hi with⟨_,h',e⟩| ⟨e1,e⟩| ⟨e1,e⟩
   · rw[e,rX h']
   · rw[e];have:=I7 h k;rw[(kY h).2.1,←e1]at this;exact this.symm
   · rw[e,e1];unfold look;rw[mo,CX (cn _)];rfl
 · unfold look;rw[mo,mo,CX om,CX om]
theorem afa {f gs vol B} (h:Inv f gs vol B) (k):has (dv gs) (rM gs vol) k=has gs vol k:=by
 have hlen:=GA h.s;have hno:look (dv gs) gs.length k=none:=by
  rw[VI h.s];unfold look;rw[mo,CX (cn _)];rfl
 unfold has;rw[hlen,gi,hno];dsimp only;rw[L4 fun i _=>VI h.s i k]
 cases hs:gi gs k gs.length with
 |none=>rfl
 |some p=>
  have:=AJ hs;show some (kK (rM gs vol p.1) p.2)=some (kK (vol p.1) p.2);unfold rM;rw[aC om]
end
section
open Go.RowKit Pl AI
attribute [local irreducible] ae.wp
structure iG (f:Fs) (gs:List Ge) (vol:Nat→List Nat) (ds:List Nl) (B:Nat):Prop where
 i:Inv f gs vol B
 d:oJ ds
 h:∀k,gl k ds=has gs vol k
theorem Inv.mono {f gs vol B} (h:Inv f gs vol B) {B'} (hB:B≤B'):Inv f gs vol B':=
 ⟨h.s,fun j b hj=> ⟨(h.fb j b hj).1,me (h.fb j b hj).2 hB⟩,fun i hi=> ⟨(h.vb i hi).1,(h.vb i hi).2.1,me (h.vb i hi).2.2.1 hB,(h.vb i hi).2.2.2⟩,h.rc,h.op,h.cl,h.ft⟩
theorem afn (k):(dw (num k 8)).length=12:=by rw[p5,cr]
structure Qw (gs cI:List Ge) (os:List Ge) (k:Int) (i:Nat):Prop where
 n:cI.length=gs.length
 o:∀j k',k'≠k→look cI j k'=look gs j k'
 k:∀j,look cI j k=none∨(look cI j k=look gs j k∧∀(t:Nat) (h:t<os.length),t<i→os[t].n≠j)
theorem Yy {f gs vol ds B} (h:iG f gs vol ds B) (hB:B≤15000) {k:Int} (bK:0≤k) (hk8:k<8):
   ∃f' gs' jc kj,G4 (dA (bL f)++sA gs++ [.r (ds.map dR),.i k])=some (.r (kj.map dR)::dA (bL f')++sA gs')∧iG f' gs' jc kj (B+248):=by
 have hS:=h.i.s;have kh:=hS.n1;have HX:=hS.n8;obtain⟨os,lB⟩:∃os,(gs.take (gs.length-1)).filter (kD k)=os:=⟨_,rfl⟩
 have Cz:os.length≤7:=by
   have:=PK (kD k) (gs.take (gs.length-1));rw[lB,cL]at this;omega
 have hom:∀e∈os,e.n<gs.length-1:=fun e he=>by
   rw[←lB]at he;obtain⟨i,hi,h2⟩:=iq (H3.1 he).1;rw[cL]at hi;rw[abV]at h2;have:=(hS.ok i om).2.1;rw[h2]at this;omega
 have HL:∀j,j<gs.length-1→look gs j k≠none→∃(t:Nat) (h:t<os.length),os[t].n=j:=fun j hj hx=>by
   have hm:gs[j]'om∈os:=by
     rw[←lB];refine H3.2 ⟨List.mem_iff_getElem.2 ⟨j,by rw[cL];omega,by rw[abV]⟩,?_⟩;rw[rX (show j<gs.length by omega)]at hx;unfold kD
     cases hf:bG (gs[j]'om).l k with
     |none=>exact absurd hf hx
     |some y=>rfl
   obtain⟨t,ht,e⟩:=iq hm;exact⟨t,ht,by rw[e];exact(hS.ok j om).2.1⟩
 have hold:=agc hS k;rw[lB]at hold
 suffices wc:∃o,Fo SX (dA (bL f)++sA gs++ [.r (ds.map dR),.i k])=some o∧∃f' gs' jc kj,o= .r (kj.map dR)::dA (bL f')++sA gs'∧iG f' gs' jc kj (B+248)by
   obtain⟨o,h1,f',gs',jc,kj,rfl,h2⟩:=wc;exact⟨f',gs',jc,kj,h1,h2⟩
 refine iH ?_;refine ag hold rfl rfl (nW ?_);refine aB (fun xs=>∃f1 cI,xs=dA (bL f1)++sA cI∧Inv f1 cI vol (B+84)∧Qw gs cI os k os.length) ?_ ?_
 · refine wp_loop (I:=fun a=>∃(i:Nat) (f1:Fs) (cI:List Ge),a= .i i::dA (bL f1)++sA cI∧i≤os.length∧Inv f1 cI vol (B+12*i)∧Qw gs cI os k i) (mu:=fun a=>match a with| .i i::_=>os.length-i.toNat|_=>0) ⟨0,f,gs,rfl,om,h.i,rfl,fun _ _ _=>rfl,fun j=> .inr ⟨rfl,fun t _ ht=>by omega⟩⟩ ?_;rintro a ⟨i,f1,cI,rfl,e1,e2,e3⟩;refine uR ?_;rw[aA];refine aI rfl (fun hc=> ?_) (fun hc=> ?_);rotate_left
   · obtain rfl:i=os.length:=om;exact ad ⟨f1,cI,rfl,e2.mono om,e3⟩
   have hi:i<os.length:=om;have hS1:=e2.s;have dQ:=e3.n;obtain⟨n,hn⟩:∃n,os[i].n=n:=⟨_,rfl⟩
   have lC:n<gs.length-1:=by rw[←hn];exact hom _ (b8 hi)
   have ew:n<cI.length:=om;have l_:=hS1.ok n ew;have vM:cI[n].mode≠1:=fun hm=>by have:=l_.2.2.1 hm;omega
   obtain⟨gV,hg2⟩:∃gV,cI.set n (cI[n].del k)=gV:=⟨_,rfl⟩
   have sZ:=e2.kill ew vM k;rw[hg2]at sZ;have hl2:gV.length=cI.length:=by rw[←hg2,ox]
   have hch:=Iy hS1 (e:=cI[n].del k) (by show cI[n].n<_;omega) (by rw[show(cI[n].del k).n=n from l_.2.1,hg2];exact sZ.s);rw[show(cI[n].del k).n=n from l_.2.1,hg2]at hch;refine aB (fun xs=>xs=sA gV) ?_ ?_
   · refine wp_loop (I:=fun a=>∃(m:Nat) (c:List Ge),a= .i m::sA c∧m≤cI.length∧c=if n<m then gV else cI) (mu:=fun a=>match a with| .i m::_=>cI.length-m.toNat|_=>0) ⟨0,cI,rfl,om,(aC om).symm⟩ ?_;rintro a ⟨m,c,rfl,m1,m2⟩;have gF:c.length=cI.length:=by rw[m2];split<;>omega
     refine uR ?_;rw[aA,gF];refine aI rfl (fun hx=> ?_) (fun hx=> ?_);rotate_left
     · obtain rfl:m=cI.length:=om;rw[ay ew]at m2;subst m2;exact ad rfl
     have hmc:m<c.length:=om;have f_:c[m].n=m:=by
       by_cases hq:n<m
       · rw[ay hq]at m2;have:c[m]=gV[m]:=by simp only[m2]
         rw[this];exact(sZ.s.ok m om).2.1
       · rw[aC hq]at m2;have:c[m]=cI[m]:=by simp only[m2]
         rw[this];exact(hS1.ok m om).2.1
     refine aB (fun xs=>∃c':List Ge,xs=sA c'∧c'=if n<m+1 then gV else cI) ?_ ?_
     · refine aP (f:=gR) (l:=c) (j:=m) rfl rfl hmc rfl (uR ?_);refine aP (f:=oR) (l:=os) (j:=i) rfl rfl hi rfl (nW ?_);refine dx (f:=oR) (l:=os) (j:=i) rfl rfl hi rfl rfl (uR ?_);refine aI rfl (fun hq=> ?_) (fun hq=> ?_)
       · have hq:((c[m].n+1:Nat):Int)=((os[i].n+1:Nat):Int):=hq;obtain rfl:m=n:=om;rw[aC om]at m2;subst m2;refine aP (f:=gR) (l:=c) (j:=m) rfl rfl hmc rfl (uR ?_);refine ag (alW l_.1 vM k) rfl rfl (nW ?_);refine ag hch rfl rfl (nW ?_);exact ad ⟨gV,rfl,by rw[ay om]⟩
       · have hq:¬((c[m].n+1:Nat):Int)=((os[i].n+1:Nat):Int):=hq;refine ad ⟨c,rfl,?_⟩;rw[m2];by_cases h3:n<m
         · rw[ay h3,ay om]
         · rw[aC h3,aC om]
     · rintro _ ⟨c',rfl,hc'⟩;refine nW ?_;refine bg (i:=m) rfl om (nW ?_);refine ad ⟨⟨m+1,c',rfl,om,hc'⟩,?_⟩;show cI.length- ((m+1:Nat):Int).toNat<cI.length-m;omega
   · rintro _ rfl;have aEh:=sZ.okF om;have kQ:=Sw sZ (9*n+1);have ey:=afn k;have hw:=(wI aEh (j:=9*n+1) om (x:=dw (num k 8)) ⟨qx (gK _ _),om⟩ (by rw[bE];omega) (.i 1) (.i 9000) (.b false) (.r (gV.map gR)) (.r (ds.map dR))).1;have kb:=x1 (n:=n) (t:=1) om dc;refine nW ?_;refine aP (f:=oR) (l:=os) (j:=i) rfl rfl hi rfl (nW ?_);refine dx (f:=oR) (l:=os) (j:=i) rfl rfl hi rfl rfl ?_;rw[hn];refine nW ?_;refine ag kb rfl rfl (uR ?_);refine pd (m:=dw (num k 8)) (afP k bK) rfl rfl (nW ?_);refine ag hw rfl rfl (nW ?_);refine bg (i:=i) rfl om (nW ?_);refine ad ⟨⟨i+1,cj f1 (9*n+1) (some (e7 f1 (9*n+1)++dw (num k 8))),gV,rfl,om,?_,?_⟩,?_⟩
     · exact sZ.Xo om (fp kQ.1 (qx (gK _ _))) (by rw[bE];omega) om
     · refine⟨om,fun j k' bZ=> ?_,fun j=> ?_⟩
       · rw[←hg2,Dj ew];split
         · rename_i hj;subst hj;rw[show bG (cI[j].del k).l k'=_ from Iw l_.1.s.v.1 k',aC bZ,←rX ew];exact e3.o j k' bZ
         · exact e3.o j k' bZ
       · rw [←hg2,Dj ew];by_cases hj:j=n
         · rw[ay hj];left;rw[show bG (cI[n].del k).l k=_ from Iw l_.1.s.v.1 k,ay rfl]
         · rw[aC hj];rcases e3.k j with h1| ⟨h1,h2⟩
           · exact .inl h1
           · refine .inr ⟨h1,fun t ht hlt=> ?_⟩;by_cases fk:t=i
             · subst fk;rw[hn];exact fun e=>hj e.symm
             · exact h2 t ht om
     · show os.length- ((i+1:Nat):Int).toNat<os.length-i;omega
 rintro _ ⟨f1,cI,rfl,hI,hG⟩;have hS1:=hI.s;have cg:=kY hS1;have hlk:=I7 hS1 k;have kQ:=hG.n;have hno:∀j,j<gs.length-1→look cI j k=none:=fun j hj=>by
   rcases hG.k j with h1| ⟨h1,h2⟩
   · exact h1
   · by_cases hx:look gs j k=none
     · rw[h1,hx]
     · obtain⟨t,ht,e⟩:=HL j hj hx;exact absurd e (h2 t ht ht)
 have ee:=Dp cg.1.mb k;have abk:∀k',k'≠k→has cI vol k'=has gs vol k':=fun k' bZ=>G' kQ (fun j _=>hG.o j k' bZ) fun _ _ _ _=>rfl
 refine nW ?_;refine ag (Vf hS1) rfl rfl (nW ?_)
 cases hf:bG (bP cI).l k with
 | none=>
   rw[hf]at ee hlk;simp only[kZ]at ee;refine aB (fun xs=>xs=dA (bL f1)++sA cI++ [.r (ds.map dR)]) ?_ ?_
   · refine ag ee rfl rfl (nW ?_);refine bj rfl ?_;exact ad rfl
   rintro _ rfl;refine nW ?_;refine ag (l:=[.r ((iE k ds).map dR)]) (by rw[←Er];rfl) rfl rfl (nW ?_);refine ad ⟨f1,cI,vol,iE k ds,rfl,hI.mono om,h.d.del,fun k'=> ?_⟩;rw[GD h.d];by_cases bZ:k'=k
   · rw[ay bZ,bZ];unfold has;rw[Gi];rfl;intro j hj;by_cases hj':j=cI.length-1
     · rw[hj',←cg.2.1];exact hlk
     · exact hno j om
   · rw[aC bZ,abk k' bZ];exact h.h k'
 | some y=>
   rw[hf]at ee hlk;simp only[kZ]at ee;obtain⟨hl,he⟩:=x6 hS1;have hyl:=zH hf;have hyr:=hI.rc _ hl y (by rw[he];exact hyl.1);have hx:jO ⟨k,y.cookie,true,[]⟩:=⟨bK,hk8,hyr.c0,hyr.c4,fun _=>rfl,fun z hz=> (by cases hz),fm _⟩
   obtain⟨t1,t2,t3,t4⟩:=hI.top;have had:=WN (hI.okF om) hS1 (ds:=ds) hx (by show(bP cI).size+bU 0≤17000;rw[show bU 0=24 from rfl];omega) (by rw[t2];omega);have hI':=hI.add om hx;refine aB (fun xs=>xs=dA (bL (sg f1 cI ⟨k,y.cookie,true,[]⟩))++sA (lu cI ⟨k,y.cookie,true,[]⟩)++ [.r ((iE k ds).map dR)]) ?_ ?_
   · refine ag ee rfl rfl (nW ?_);refine dX rfl (uR ?_);refine ag had rfl rfl (nW ?_);exact ad rfl
   rintro _ rfl;refine nW ?_;refine ag (l:=[.r ((iE k (iE k ds)).map dR)]) (by show some [L.r (nP k ((iE k ds).map dR))]=_;rw[Er]) rfl rfl (nW ?_);refine ad ⟨_,_,ph cI vol ⟨k,y.cookie,true,[]⟩,iE k (iE k ds),rfl,hI'.mono om,h.d.del.del,fun k'=> ?_⟩;rw[GD h.d.del,GD h.d];have abm:=LV hS1 ⟨k,y.cookie,true,[]⟩;have hlen:(lu cI ⟨k,y.cookie,true,[]⟩).length=cI.length:=ox;by_cases bZ:k'=k
   · rw[ay bZ,bZ];unfold has;rw[Gi];rfl;intro j hj;rw[hlen]at hj;rw[abm];by_cases hj':j=(bP cI).n
     · rw[ay hj',ay rfl,ay rfl]
     · rw[aC hj'];have:=cg.2.1;exact hno j om
   · rw[aC bZ,aC bZ,h.h k',←abk k' bZ];refine(G' hlen (fun i hi=> ?_) (fun i z hi hz=>SA hI _ hi (NO hz hi))).symm;rw[abm];by_cases hj:i=(bP cI).n
     · rw[ay hj,aC bZ]
     · rw[aC hj]
end
end
end Go.Proofs.YtndegphojkiblaaGreatDoor
