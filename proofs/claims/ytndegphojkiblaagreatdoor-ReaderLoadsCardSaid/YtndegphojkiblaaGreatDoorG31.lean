/- Towards the last file's theorem: part 31. -/
import Derived.Test.YtndegphojkiblaaGreatDoorG30
set_option linter.all false
set_option maxHeartbeats 4000000
set_option maxRecDepth 100000
namespace Go.Proofs.YtndegphojkiblaaGreatDoor
noncomputable section
section
open Go.RowKit AI
attribute [local irreducible] ad.wp
def gf (c:Nat→Nat) (d:Nat→List Nat) (z:List Nat):Nat→List Nat
 |0=>z
 |k+1=>dW (c k) (gf c d z k) (d k)
def ix (E:List Nat) (ds:List (List Nat)) (m j:Nat):List Nat:=gf (fun k=>E.getD (j*4+k) 0) (fun k=>ds.getD k []) (List.replicate m 0) 4
def fY (E:List Nat) (ds:List (List Nat)) (m nr:Nat):List (List Nat):=(List.range nr).map (ix E ds m)
theorem XO (m:Nat):B8 (List.replicate m 0):=fun x hx=>by rw[aiS hx];decide
theorem Bt {c:Nat→Nat} {d:Nat→List Nat} {m n:Nat} (hd:∀k,k<n→(d k).length=m):∀k,k≤n→(gf c d (List.replicate m 0) k).length=m∧B8 (gf c d (List.replicate m 0) k)
 |0,_=> ⟨pZ,XO m⟩
 |k+1,h=>by
  have h1:=Bt (c:=c) hd k om;have h2:=hd k om;unfold gf;exact⟨by rw[Aq om];exact h2,amZ h1.2⟩
theorem dO {α:Type} {d:α} {l:List α} {i:Nat} (h:i<l.length):l.getD i d=l[i]:=by rw[rX,bX h];rfl
def lvl (ds:List (List Nat)) (m:Nat):Prop:=∀d∈ds,B8 d∧d.length=m
theorem lvl.at {ds:List (List Nat)} {m:Nat} (h:lvl ds m) {k:Nat} (hk:k<ds.length):B8 ds[k]∧ds[k].length=m:=h _ (b9 hk)
theorem OU {E:List Nat} {ds:List (List Nat)} {m:Nat} (h4:ds.length=4) (h:lvl ds m) (j:Nat):(ix E ds m j).length=m∧B8 (ix E ds m j):=
 Bt (n:=4) (fun k hk=>by show(ds.getD k []).length=m;rw[dO om];exact(h.at om).2) 4 om
theorem vQ (E:List Nat) (ds:List (List Nat)) (m nr:Nat):(fY E ds m nr).length=nr:=by simp[fY]
theorem yg {E:List Nat} {ds:List (List Nat)} {m nr i:Nat} (h:i< (fY E ds m nr).length):(fY E ds m nr)[i]=ix E ds m i:=by simp[fY]
theorem UQ {E:List Nat} {ds:List (List Nat)} {m nr:Nat} (h4:ds.length=4) (h:lvl ds m):lvl (fY E ds m nr) m:=fun d hd=>by
 obtain⟨j,_,rfl⟩:=dy.1 hd;exact⟨(OU h4 h j).2,(OU h4 h j).1⟩
section
variable {α:Type} {d:α} {l:List α} {n:Nat}
def eT (d:α) (l:List α) (n i:Nat):List α:=l.take i++List.replicate (n-i) d
theorem DD (h:l.length=n) {i:Nat} (hi:i≤n):(eT d l n i).length=n:=by simp only[eT,dL,dX,pZ];omega
theorem DB (h:l.length=n) {i:Nat} (hi:i<n) {v:α} (hv:v=l[i]'om):(eT d l n i).set i v=eT d l n (i+1):=by
 unfold eT;rw[List.set_append_right _ _ (by rw[dX];omega),iQ om,e_,dX];congr 1;rw[show i-min i l.length=0 by omega,show n-i=(n- (i+1))+1 by omega,List.replicate_succ,aiU,hv];rfl
theorem DK (h:l.length=n):eT d l n n=l:=by unfold eT;rw[ir om,II];simp
end
theorem AQ (l:List (List Nat)):bA 1 (l.map fR)=true:=by
 unfold bA;rw[bk];intro x hx;obtain⟨y,_,rfl⟩:=dy.1 hx;rfl
theorem azK {E:List Nat} {nr i k:Nat} (hi:i≤16) (hk:k<4) (h:i*4+k<E.length):nE [.i nr,.i 4,.r (E.map b1),.i i,.i k]=some [.i (E.getD (i*4+k) 0:Nat)]:=by
 refine a_ ?_;unfold NA;refine kY (n:=((i*4:Nat):Int)) oO om om (nW ?_);refine dt (n:=((i*4+k:Nat):Int)) oO om om (nW ?_);refine bz (f:=b1) (j:=i*4+k) rfl rfl h rfl (uR ?_);refine ae ?_;rw[dO h];rfl
theorem azg:jW [.i 6]=some [.b true]:=sF _ _ kr
theorem aAR:jW [.i 4]=some [.b true]:=sF _ _ kr
theorem aCP {E:List Nat} (hE:E.length=24):nu [.i 6,.i 4,.r (E.map b1)]=some [.b true]:=by
 refine a_ ?_;unfold L3;refine aH (fun xs=>xs=[.b true]) ?_ ?_
 · refine ay azg rfl rfl (nW ?_);refine iz rfl ?_;refine ay aAR rfl rfl (nW ?_);refine iz rfl (uR ?_);refine kY (n:=24) rfl om om (uR ?_);refine ae ?_;exact dT (by rw[ax,hE];rfl)
 rintro _ rfl;refine nW ?_;exact ae rfl
theorem aEH {E:List Nat} (hE:E.length=24) (hc:∀x∈E,x<256∧(x=0∨uQ x=true)) {ds:List (List Nat)} (h4:ds.length=4) {m:Nat} (hm:m≤4294967296) (hd:lvl ds m):OP [.i 6,.i 4,.r (E.map b1),.r (ds.map fR)]=some [.i 0,.r ((fY E ds m 6).map fR)]:=by
 refine a_ ?_;unfold aev;refine aH (fun xs=>xs=[.b false]) ?_ ?_
 · refine ay (aCP hE) rfl rfl (uR ?_);refine cW rfl (uR ?_);refine ae ?_;exact dF (by rw[ax,h4];decide)
 rintro _ rfl;refine nW ?_;refine cW rfl ?_;have dR:=hd.at (show 0<ds.length by omega);refine aH (fun xs=>xs=[]) ?_ ?_
 · refine uR ?_;refine wp_loop (I:=fun x=>∃i:Nat,x=[.i i]∧i≤4) (mu:=fun x=>match x with|[.i i]=>4-i.toNat|_=>0) ⟨0,rfl,om⟩ ?_;rintro x ⟨i,rfl,e1⟩;refine uR ?_;refine aP rfl (fun hx=> ?_) (fun hx=> ?_);rotate_left
   · exact ae rfl
   rw[ax,h4]at hx;have hi:i<ds.length:=om;refine bz (f:=fR) (j:=i) rfl rfl hi rfl (uR ?_);refine bz (f:=fR) (j:=0) rfl rfl (show 0<ds.length by omega) rfl (uR ?_);refine cJ rfl (by rw[ax,ax,(hd.at hi).2,dR.2];exact fun h=>h rfl) ?_;refine bP (i:=i) rfl om (nW ?_);refine ae ⟨⟨i+1,rfl,om⟩,?_⟩;show 4- ((i+1:Nat):Int).toNat<4-i;omega
 rintro _ rfl;refine nW ?_;refine pB (r:=(List.replicate 6 ([]:List Nat)).map fR) (by try dsimp only[At.ev,d1,d2,d3,d4,d5,d6,d7,d8,d9,e0,List.map,bp,Kd.pv];exact⟨dc,dc,dc⟩) rfl (nW ?_);obtain⟨oL,ho⟩:∃oL,fY E ds m 6=oL:=⟨_,rfl⟩
 have pQ:oL.length=6:=by rw[←ho,vQ]
 have rO:∀i (h:i<oL.length),oL[i]=ix E ds m i:=by subst ho;exact fun i h=>yg h
 rw[ho];refine aH (fun xs=>xs=[.r (oL.map fR)]) ?_ ?_;rotate_left
 · rintro _ rfl;refine nW ?_;exact ae rfl
 refine uR ?_;refine wp_loop (I:=fun x=>∃i:Nat,x=[.i i,.r ((eT [] oL 6 i).map fR)]∧i≤6) (mu:=fun x=>match x with|[.i i,_]=>6-i.toNat|_=>0) ⟨0,rfl,om⟩ ?_;rintro x ⟨i,rfl,e1⟩;have oP:=DD (d:=([]:List Nat)) pQ e1;refine uR ?_;refine aP rfl (fun hx=> ?_) (fun hx=> ?_);rotate_left
 · have hx:¬(i:Int)<6:=hx;obtain rfl:i=6:=om;refine ae ?_;show[L.r ((eT [] oL 6 6).map fR)]=_;rw[DK pQ]
 have hx:(i:Int)<6:=hx;have hi:i<6:=om;have hst:=DB (d:=([]:List Nat)) pQ hi (v:=ix E ds m i) (rO i om).symm;obtain⟨F,hF⟩:∃F,eT [] oL 6 i=F:=⟨_,rfl⟩
 rw[hF]at oP hst⊢;refine aH (fun xs=>xs=[.r ((eT [] oL 6 (i+1)).map fR)]) ?_ ?_
 · refine bz (f:=fR) (j:=0) rfl rfl (show 0<ds.length by omega) rfl (uR ?_);refine pB (r:=(List.replicate m 0).map b1) (by
     show 0≤(((ds[0].map b1).length:Nat):Int)∧(((ds[0].map b1).length:Nat):Int)≤9223372036854775807∧1*(((ds[0].map b1).length:Nat):Int).toNat≤281474976710656;rw[ax,dR.2];omega) (by
     show List.replicate (((ds[0].map b1).length:Nat):Int).toNat [PV.sc (.int .u8 0)]=_;rw[gd,ax,dR.2,IU];rfl) ?_
   refine nW ?_;refine bz (f:=fR) (j:=i) rfl rfl (show i<F.length by omega) rfl (nW ?_);refine lu (f:=fR) (j:=i) (v:=List.replicate m 0) rfl rfl (show i<F.length by omega) rfl rfl (uR ?_);have hlk:=Bt (c:=fun k=>E.getD (i*4+k) 0) (d:=fun k=>ds.getD k []) (m:=m) (n:=4) (fun k hk=>by show(ds.getD k []).length=m;rw[dO om];exact(hd.at om).2);refine wp_loop (I:=fun x=>∃k:Nat,x=[.i k,.r ((F.set i (gf (fun k=>E.getD (i*4+k) 0) (fun k=>ds.getD k []) (List.replicate m 0) k)).map fR)]∧k≤4) (mu:=fun x=>match x with|[.i k,_]=>4-k.toNat|_=>0) ⟨0,rfl,om⟩ ?_;rintro x ⟨k,rfl,e2⟩;have ud:=hlk k e2;have dI:gf (fun k=>E.getD (i*4+k) 0) (fun k=>ds.getD k []) (List.replicate m 0) (k+1)=dW (E.getD (i*4+k) 0) (gf (fun k=>E.getD (i*4+k) 0) (fun k=>ds.getD k []) (List.replicate m 0) k) (ds.getD k []):=rfl;refine uR ?_;refine aP rfl (fun hy=> ?_) (fun hy=> ?_);rotate_left
   · rw[ax,h4]at hy;obtain rfl:k=4:=om;refine ae ?_;show[L.r ((F.set i (ix E ds m i)).map fR)]=_;rw[hst]
   rw[ax,h4]at hy;have hk:k<ds.length:=om;have eM:=hd.at hk;obtain⟨u,hu⟩:∃u,gf (fun k=>E.getD (i*4+k) 0) (fun k=>ds.getD k []) (List.replicate m 0) k=u:=⟨_,rfl⟩
   obtain⟨v,hv⟩:∃v,gf (fun k=>E.getD (i*4+k) 0) (fun k=>ds.getD k []) (List.replicate m 0) (k+1)=v:=⟨_,rfl⟩
   rw[hu,hv,dO hk]at dI;rw[hu]at ud⊢;have lK:(F.set i u).length=6:=by rw[zI];exact oP
   have hat:(F.set i u)[i]'om=u:=List.getElem_set_self _;refine bz (f:=fR) (j:=k) rfl rfl hk rfl (uR ?_);refine bz (f:=fR) (j:=i) rfl rfl (show i< (F.set i u).length by omega) rfl (nW ?_);refine dV (f:=fR) (j:=i) rfl rfl (show i< (F.set i u).length by omega) rfl rfl ?_;rw[hat];refine nW ?_;have mK:i*4+k<E.length:=om;refine ay (azK om om mK) rfl rfl (nW ?_);have H_:=hc _ (b9 mK);refine ay (aFN (c:=E.getD (i*4+k) 0) (by rw[dO mK];exact H_.1) (by rw[dO mK];exact H_.2) u ds[k] ud.2 eM.1 om om) rfl rfl (nW ?_);refine bz (f:=fR) (j:=i) rfl rfl (show i< (F.set i u).length by omega) rfl (nW ?_);refine lu (f:=fR) (j:=i) (v:=v) rfl rfl (show i< (F.set i u).length by omega) rfl (by rw[dI];rfl) ?_;rw[SZ];refine nW ?_;refine bP (i:=k) rfl om (nW ?_);refine ae ⟨⟨k+1,by rw[hv];rfl,om⟩,?_⟩;show 4- ((k+1:Nat):Int).toNat<4-k;omega
 rintro _ rfl;refine nW ?_;refine bP (i:=i) rfl om (nW ?_);refine ae ⟨⟨i+1,rfl,om⟩,?_⟩;show 6- ((i+1:Nat):Int).toNat<6-i;omega
theorem aFK:js [.i 6,.i 4]=some [.b true]:=uu _ _ kr
theorem ate:js [.i 4,.i 4]=some [.b true]:=uu _ _ kr
theorem ZF {nr:Nat} (hn:nr≤16) (hs:js [.i nr,.i 4]=some [.b true]) {E:List Nat} (hE:E.length=nr*4):jw [.i nr,.i 4,.r (E.map b1)]=some [.b true]:=by
 refine a_ ?_;unfold GU;refine aH (fun xs=>xs=[.b true]) ?_ ?_
 · refine ay hs rfl rfl (nW ?_);refine iz rfl (uR ?_);refine kY (n:=((nr*4:Nat):Int)) oO om om (uR ?_);refine ae ?_;exact dT (by rw[ax,hE])
 rintro _ rfl;refine nW ?_;exact ae rfl
theorem axB {α:Type} {f:α→List PV} (hf:∀x,(f x).all PV.bare=true) (l:List α):(l.map f).all (·.all PV.bare)=true:=by
 rw[bk];intro x hx;obtain⟨y,_,rfl⟩:=dy.1 hx;exact hf y
section
variable {ρ:List L} {Q:Lf×List L→Prop} {k:ad} {α:Type} {f:α→List PV}
theorem nq {t:Nat} {F:List L→Option (List L)} {args:List At} {n j:Nat} {l:List L} {m:List α} (hf:∀x,(f x).all PV.bare=true) (h:F (args.map (At.ev ρ))=some l) (hl:l.length=n) (hj:l[j]? =some (.r (m.map f))) (hk:k.wp (ρ++l) Q):(ad.op (.call t F args n [j]) k).wp ρ Q:=
 ay h hl (by simp only[SM,List.all_nil,Bool.and_true,hj,eN];exact axB hf m) hk
theorem Em {l:List α} {x lo ln i:At} {n j c:Nat} (hx:(x.ev ρ).ah=l.map f) (dr:(lo.ev ρ).af=0) (wG:(ln.ev ρ).af=c) (hi:(i.ev ρ).af=j) (hj:j<l.length) (hc:j<c) (hn:(f l[j]).length=n) (hk:k.wp (ρ++ [.i (j:Nat)]) Q):(ad.op (.fE x lo ln i n) k).wp ρ Q:=
 lW (ls:=[.i (j:Nat)]) (by
  simp only[Nd.ev];rw[hx,dr,wG,hi,au om,gd,zG,Dd,bO,bX hj];exact au ⟨hn,by rw[gd];exact hc⟩) hk
theorem Ls {l:List α} {x lo ln:At} {c:Nat} (hx:(x.ev ρ).ah=l.map f) (dr:(lo.ev ρ).af=0) (wG:(ln.ev ρ).af=c) (hk:k.wp (ρ++ [.r ((l.take c).map f)]) Q):(ad.op (.vw x lo ln) k).wp ρ Q:=
 Ku (by rw[hx,dr,wG,gd,zG,rW,←p8];exact hk)
end
theorem axh {E:List Nat} (hE:E.length=6*4) (hc:∀x∈E,x<256) {ds:List (List Nat)} (h4:ds.length=4) {m:Nat} (hm:m≤4294967296) (hd:lvl ds m):wR [.i 6,.i 4,.r (E.map b1),.r (ds.map fR)]=some [.i 0,.r ((fY E ds m 6).map fR)]:=by
 refine a_ ?_;unfold PY;refine aH (fun xs=>xs=[.b false]) ?_ ?_
 · refine ay (ZF (nr:=6) dc aFK hE) rfl rfl (nW ?_);refine sT rfl ?_;refine nW ?_;refine cW rfl (uR ?_);refine ae ?_;exact dF (by rw[ax,h4];decide)
 rintro _ rfl;refine nW ?_;refine cW rfl ?_;have dR:=hd.at (show 0<ds.length by omega);refine aH (fun xs=>xs=[]) ?_ ?_
 · refine wp_loop (I:=fun x=>∃i:Nat,x=[.i i]∧i≤4) (mu:=fun x=>match x with|[.i i]=>4-i.toNat|_=>0) ⟨0,rfl,om⟩ ?_;rintro x ⟨i,rfl,e1⟩;refine uR ?_;refine aP rfl (fun hx=> ?_) (fun hx=> ?_);rotate_left
   · exact ae rfl
   rw[ax,h4]at hx;have hi:i<ds.length:=om;refine bz (f:=fR) (j:=i) rfl rfl (show i<ds.length by omega) rfl (nW ?_);refine dV (f:=fR) (j:=i) rfl rfl (show i<ds.length by omega) rfl rfl (uR ?_);refine bz (f:=fR) (j:=0) rfl rfl (show 0<ds.length by omega) rfl (nW ?_);refine dV (f:=fR) (j:=0) rfl rfl (show 0<ds.length by omega) rfl rfl (uR ?_);refine cJ rfl (by rw[ax,ax,(hd.at hi).2,dR.2];exact fun h=>h rfl) ?_;refine bP (i:=i) rfl om (nW ?_);refine ae ⟨⟨i+1,rfl,om⟩,?_⟩;show 4- ((i+1:Nat):Int).toNat<4-i;omega
 rintro _ rfl;refine nW ?_;obtain⟨oL,ho⟩:∃oL,fY E ds m 6=oL:=⟨_,rfl⟩
 have pQ:oL.length=6:=by rw[←ho,vQ]
 have rO:∀i (h:i<oL.length),oL[i]=ix E ds m i:=by subst ho;exact fun i h=>yg h
 rw[ho];refine aH (fun xs=>xs=[.r (oL.map fR)]) ?_ ?_;rotate_left
 · rintro _ rfl;refine nW ?_;exact ae rfl
 refine wp_loop (I:=fun x=>∃i:Nat,x=[.i i,.r ((oL.take i).map fR)]∧i≤6) (mu:=fun x=>match x with|[.i i,_]=>6-i.toNat|_=>0) ⟨0,rfl,om⟩ ?_;rintro x ⟨i,rfl,e1⟩;refine uR ?_;refine aP rfl (fun hx=> ?_) (fun hx=> ?_);rotate_left
 · have hx:¬(i:Int)<6:=hx;refine ae ?_;show[L.r ((oL.take i).map fR)]=_;rw[ir om]
 have hx:(i:Int)<6:=hx;have hi:i<oL.length:=om;refine bz (f:=fR) (j:=0) rfl rfl (show 0<ds.length by omega) rfl (nW ?_);refine dV (f:=fR) (j:=0) rfl rfl (show 0<ds.length by omega) rfl rfl (uR ?_);refine pB (r:=(List.replicate m 0).map b1) (by
   show 0≤(((ds[0].map b1).length:Nat):Int)∧(((ds[0].map b1).length:Nat):Int)≤9223372036854775807∧1*(((ds[0].map b1).length:Nat):Int).toNat≤281474976710656;rw[ax,dR.2];omega) (by
   show List.replicate (((ds[0].map b1).length:Nat):Int).toNat [PV.sc (.int .u8 0)]=_;rw[gd,ax,dR.2,IU];rfl) ?_
 refine nW ?_;refine aH (fun xs=>xs=[.r ((ix E ds m i).map b1)]) ?_ ?_
 · have hlk:=Bt (c:=fun k=>E.getD (i*4+k) 0) (d:=fun k=>ds.getD k []) (m:=m) (n:=4) (fun k hk=>by show(ds.getD k []).length=m;rw[dO om];exact(hd.at om).2);refine wp_loop (I:=fun x=>∃k:Nat,x=[.i k,.r ((gf (fun k=>E.getD (i*4+k) 0) (fun k=>ds.getD k []) (List.replicate m 0) k).map b1)]∧k≤4) (mu:=fun x=>match x with|[.i k,_]=>4-k.toNat|_=>0) ⟨0,rfl,om⟩ ?_;rintro x ⟨k,rfl,e2⟩;have ud:=hlk k e2;have dI:gf (fun k=>E.getD (i*4+k) 0) (fun k=>ds.getD k []) (List.replicate m 0) (k+1)=dW (E.getD (i*4+k) 0) (gf (fun k=>E.getD (i*4+k) 0) (fun k=>ds.getD k []) (List.replicate m 0) k) (ds.getD k []):=rfl;refine uR ?_;refine aP rfl (fun hy=> ?_) (fun hy=> ?_);rotate_left
   · have hy:¬(k:Int)<4:=hy;obtain rfl:k=4:=om;exact ae rfl
   have hy:(k:Int)<4:=hy;have hk:k<ds.length:=om;have eM:=hd.at hk;obtain⟨u,hu⟩:∃u,gf (fun k=>E.getD (i*4+k) 0) (fun k=>ds.getD k []) (List.replicate m 0) k=u:=⟨_,rfl⟩
   obtain⟨v,hv⟩:∃v,gf (fun k=>E.getD (i*4+k) 0) (fun k=>ds.getD k []) (List.replicate m 0) (k+1)=v:=⟨_,rfl⟩
   rw[hu,hv,dO hk]at dI;rw[hu]at ud⊢;refine bz (f:=fR) (j:=k) rfl rfl (show k<ds.length by omega) rfl (nW ?_);refine dV (f:=fR) (j:=k) rfl rfl (show k<ds.length by omega) rfl rfl (nW ?_);refine kY (n:=((i*4:Nat):Int)) oO om om (nW ?_);refine dt (n:=((i*4+k:Nat):Int)) oO om om (nW ?_);have mK:i*4+k<E.length:=om;refine bz (f:=b1) (j:=i*4+k) rfl rfl mK rfl (uR ?_);rw[dO mK]at dI;refine nq (f:=b1) (m:=dW E[i*4+k] u ds[k]) (fun _=>rfl) (abF (hc _ (b9 mK)) u ds[k] ud.2 eM.1 om om) rfl rfl ?_;rw[←dI];refine nW ?_;refine bP (i:=k) rfl om (nW ?_);refine ae ⟨⟨k+1,by rw[hv];rfl,om⟩,?_⟩;show 4- ((k+1:Nat):Int).toNat<4-k;omega
 rintro _ rfl;refine uR ?_;refine ee (r:=(oL.take (i+1)).map fR) (AQ _) rfl oO oO dc (by rw[iQ hi,ej,rO i hi];rfl) (nW ?_);refine bP (i:=i) rfl om (nW ?_);refine ae ⟨⟨i+1,rfl,om⟩,?_⟩;show 6- ((i+1:Nat):Int).toNat<6-i;omega
theorem axJ {E:List Nat} (hE:E.length=4*4) (hc:∀x∈E,x<256) {ds ss:List (List Nat)} (h4:ds.length=4) {m:Nat} (hm:m≤4294967296) (hd:lvl ds m) (ze:4≤ss.length) (he:ss.take 4=ds):LH [.i 4,.i 4,.r (E.map b1),.r (ss.map fR),.i 0,.i 4]=some [.i 0,.r ((fY E ds m 4).map fR)]:=by
 refine a_ ?_;unfold Up;have y5:∀i (h:i<4),ss[i]'om=ds[i]'om:=fun i h=>by subst he;rw[List.getElem_take]
 refine aH (fun xs=>xs=[.b false]) ?_ ?_
 · refine ay (ZF (nr:=4) dc ate hE) rfl rfl (nW ?_);refine sT rfl ?_;refine nW ?_;refine cW rfl ?_;refine Ls (f:=fR) (l:=ss) (c:=4) rfl rfl rfl ?_;rw[he];refine uR ?_;refine ae ?_;exact dF (by rw[ax,h4];decide)
 rintro _ rfl;refine nW ?_;refine cW rfl ?_;have dR:=hd.at (show 0<ds.length by omega);refine aH (fun xs=>xs=[]) ?_ ?_
 · refine wp_loop (I:=fun x=>∃i:Nat,x=[.i i]∧i≤4) (mu:=fun x=>match x with|[.i i]=>4-i.toNat|_=>0) ⟨0,rfl,om⟩ ?_;rintro x ⟨i,rfl,e1⟩;refine nW ?_;refine Ls (f:=fR) (l:=ss) (c:=4) rfl rfl rfl ?_;rw[he];refine uR ?_;refine aP rfl (fun hx=> ?_) (fun hx=> ?_);rotate_left
   · exact ae rfl
   rw[ax,h4]at hx;have hi:i<ds.length:=om;refine Em (f:=fR) (l:=ss) (j:=i) (c:=4) rfl rfl rfl rfl om om rfl (nW ?_);refine dV (f:=fR) (l:=ss) (j:=i) rfl rfl om rfl rfl ?_;rw[y5 i om];refine uR ?_;refine Em (f:=fR) (l:=ss) (j:=0) (c:=4) rfl rfl rfl rfl om om rfl (nW ?_);refine dV (f:=fR) (l:=ss) (j:=0) rfl rfl om rfl rfl ?_;rw[y5 0 om];refine uR ?_;refine cJ rfl (by rw[ax,ax,(hd.at hi).2,dR.2];exact fun h=>h rfl) ?_;refine bP (i:=i) rfl om (nW ?_);refine ae ⟨⟨i+1,rfl,om⟩,?_⟩;show 4- ((i+1:Nat):Int).toNat<4-i;omega
 rintro _ rfl;refine nW ?_;obtain⟨oL,ho⟩:∃oL,fY E ds m 4=oL:=⟨_,rfl⟩
 have pQ:oL.length=4:=by rw[←ho,vQ]
 have rO:∀i (h:i<oL.length),oL[i]=ix E ds m i:=by subst ho;exact fun i h=>yg h
 rw[ho];refine aH (fun xs=>xs=[.r (oL.map fR)]) ?_ ?_;rotate_left
 · rintro _ rfl;refine nW ?_;exact ae rfl
 refine wp_loop (I:=fun x=>∃i:Nat,x=[.i i,.r ((oL.take i).map fR)]∧i≤4) (mu:=fun x=>match x with|[.i i,_]=>4-i.toNat|_=>0) ⟨0,rfl,om⟩ ?_;rintro x ⟨i,rfl,e1⟩;refine uR ?_;refine aP rfl (fun hx=> ?_) (fun hx=> ?_);rotate_left
 · have hx:¬(i:Int)<4:=hx;refine ae ?_;show[L.r ((oL.take i).map fR)]=_;rw[ir om]
 have hx:(i:Int)<4:=hx;have hi:i<oL.length:=om;refine Em (f:=fR) (l:=ss) (j:=0) (c:=4) rfl rfl rfl rfl om om rfl (nW ?_);refine dV (f:=fR) (l:=ss) (j:=0) rfl rfl om rfl rfl ?_;rw[y5 0 om];refine uR ?_;refine pB (r:=(List.replicate m 0).map b1) (by
   show 0≤(((ds[0].map b1).length:Nat):Int)∧(((ds[0].map b1).length:Nat):Int)≤9223372036854775807∧1*(((ds[0].map b1).length:Nat):Int).toNat≤281474976710656;rw[ax,dR.2];omega) (by
   show List.replicate (((ds[0].map b1).length:Nat):Int).toNat [PV.sc (.int .u8 0)]=_;rw[gd,ax,dR.2,IU];rfl) ?_
 refine nW ?_;refine aH (fun xs=>xs=[.r ((ix E ds m i).map b1)]) ?_ ?_
 · have hlk:=Bt (c:=fun k=>E.getD (i*4+k) 0) (d:=fun k=>ds.getD k []) (m:=m) (n:=4) (fun k hk=>by show(ds.getD k []).length=m;rw[dO om];exact(hd.at om).2);refine wp_loop (I:=fun x=>∃k:Nat,x=[.i k,.r ((gf (fun k=>E.getD (i*4+k) 0) (fun k=>ds.getD k []) (List.replicate m 0) k).map b1)]∧k≤4) (mu:=fun x=>match x with|[.i k,_]=>4-k.toNat|_=>0) ⟨0,rfl,om⟩ ?_;rintro x ⟨k,rfl,e2⟩;have ud:=hlk k e2;have dI:gf (fun k=>E.getD (i*4+k) 0) (fun k=>ds.getD k []) (List.replicate m 0) (k+1)=dW (E.getD (i*4+k) 0) (gf (fun k=>E.getD (i*4+k) 0) (fun k=>ds.getD k []) (List.replicate m 0) k) (ds.getD k []):=rfl;refine uR ?_;refine aP rfl (fun hy=> ?_) (fun hy=> ?_);rotate_left
   · have hy:¬(k:Int)<4:=hy;obtain rfl:k=4:=om;exact ae rfl
   have hy:(k:Int)<4:=hy;have hk:k<ds.length:=om;have eM:=hd.at hk;obtain⟨u,hu⟩:∃u,gf (fun k=>E.getD (i*4+k) 0) (fun k=>ds.getD k []) (List.replicate m 0) k=u:=⟨_,rfl⟩
   obtain⟨v,hv⟩:∃v,gf (fun k=>E.getD (i*4+k) 0) (fun k=>ds.getD k []) (List.replicate m 0) (k+1)=v:=⟨_,rfl⟩
   rw[hu,hv,dO hk]at dI;rw[hu]at ud⊢;refine Em (f:=fR) (l:=ss) (j:=k) (c:=4) rfl rfl rfl rfl om om rfl (nW ?_);refine dV (f:=fR) (l:=ss) (j:=k) rfl rfl om rfl rfl ?_;rw[y5 k om];refine nW ?_;refine kY (n:=((i*4:Nat):Int)) oO om om (nW ?_);refine dt (n:=((i*4+k:Nat):Int)) oO om om (nW ?_);have mK:i*4+k<E.length:=om;refine bz (f:=b1) (j:=i*4+k) rfl rfl mK rfl (nW ?_);refine dV (f:=b1) (j:=i*4+k) rfl rfl mK rfl rfl (nW ?_);rw[dO mK]at dI;refine nq (f:=b1) (m:=dW E[i*4+k] u ds[k]) (fun _=>rfl) (abF (hc _ (b9 mK)) u ds[k] ud.2 eM.1 om om) rfl rfl ?_;rw[←dI];refine nW ?_;refine bP (i:=k) rfl om (nW ?_);refine ae ⟨⟨k+1,by rw[hv];rfl,om⟩,?_⟩;show 4- ((k+1:Nat):Int).toNat<4-k;omega
 rintro _ rfl;refine uR ?_;refine ee (r:=(oL.take (i+1)).map fR) (AQ _) rfl oO oO dc (by rw[iQ hi,ej,rO i hi];rfl) (nW ?_);refine bP (i:=i) rfl om (nW ?_);refine ae ⟨⟨i+1,rfl,om⟩,?_⟩;show 4- ((i+1:Nat):Int).toNat<4-i;omega
end
end
end Go.Proofs.YtndegphojkiblaaGreatDoor
