/- Towards the last file's theorem: part 39. -/
import Derived.Test.YtndegphojkiblaaGreatDoorG13
import Derived.Test.YtndegphojkiblaaGreatDoorG27
import Derived.Test.YtndegphojkiblaaGreatDoorG29
import Derived.Test.YtndegphojkiblaaGreatDoorG30
import Derived.Test.YtndegphojkiblaaGreatDoorG37
import Derived.Test.YtndegphojkiblaaGreatDoorG38
set_option linter.all false
set_option maxHeartbeats 4000000
set_option maxRecDepth 100000
namespace Go.Proofs.YtndegphojkiblaaGreatDoor
noncomputable section
def aKu:ad:=xF TT [] ((Tryz.prog.funcs[EJ.f]?).getD default) EJ.cE EJ.params EJ.H
def aKv:ad:=xF TT [] ((Tryz.prog.funcs[Jh.f]?).getD default) Jh.cE Jh.params Jh.H
def aKw:ad:=xF TT [HP,HQ,KW] ((Tryz.prog.funcs[xi.f]?).getD default) xi.cE xi.params xi.H
section
open Go.RowKit Pl AI
attribute [local irreducible] ad.wp
def eK (r:By):Prop:=∃l:List Nat,B8 l∧r=l.map b1
theorem eK.app {a b:By} (ha:eK a) (hb:eK b):eK (a++b):=by
 obtain⟨x,h1,rfl⟩:=ha;obtain⟨y,h2,rfl⟩:=hb;exact⟨x++y,fun z hz=> (ei.1 hz).elim (h1 z) (h2 z),by rw[ej]⟩
theorem eK.take {a:By} (ha:eK a) (n:Nat):eK (a.take n):=by
 obtain⟨x,h1,rfl⟩:=ha;exact⟨x.take n,h1.take n,by rw[p8]⟩
theorem eK.drop {a:By} (ha:eK a) (n:Nat):eK (a.drop n):=by
 obtain⟨x,h1,rfl⟩:=ha;exact⟨x.drop n,h1.drop n,by rw[p7]⟩
theorem alL (n:Nat):eK (List.replicate n gJ):=⟨List.replicate n 0,XO n,by rw[IU];rfl⟩
theorem eK.afi {a:By} (ha:eK a):bA 1 a=true:=by
 obtain⟨x,_,rfl⟩:=ha;exact kZ x
theorem ajL {b:By} {w:Wr} (hb:eK b) (hw:eK w.data):eK (gj b w):=by
 unfold gj;split
 · exact hb.take _
 · exact(((hb.app (alL _)).take _).app hw).app (hb.drop _)
theorem apA {ws:List Wr}:∀{b:By},eK b→(∀w∈ws,eK w.data)→eK (c_ b ws):=by
 induction ws with
 |nil=>exact fun h _=>h
 |cons w ws ih=>exact fun h hw=>ih (ajL h (hw w ek)) fun x hx=>hw x (fb _ hx)
def mr (d:Dk):Prop:=rY d∧∀f∈d.files,eK f.base∧∀w∈f.aR,eK w.data
theorem aAl {d:Dk} (hd:mr d) {s:cn} {c:By} (h:Wh d s c):eK c∧c.length≤1048576:=by
 obtain⟨h1,h2,h3,i,hi,rfl⟩:=h;have hlt:=hi.1;have aX:=(h1.2 i hlt).1.2;have hlen:=qC aX.1 (qv.1 aX.2) (cT _);rw[jg]at hlen;have hb:=hd.2 _ (b9 hlt);exact⟨apA hb.1 hb.2,hlen⟩
theorem aex {d:Dk} (hd:mr d) {s:cn} (hs:s.size≤4611686018427387904):∃(t:Bool) (b:List Nat) (e:Int),B8 b∧b.length≤1048576∧vl [.i d.cap,.i d.left,.r (d.files.map aY),.s s]=some [.b t,.r (b.map b1)]∧pj [.i d.cap,.i d.left,.r (d.files.map aY),.s s]=some [.r (b.map b1),.i e]∧(t=true ↔ e=0)∧(t=false→b=[]):=by
 by_cases h:∃c,Wh d s c
 · obtain⟨c,hc⟩:=h;obtain⟨⟨b,hb,rfl⟩,hl⟩:=aAl hd hc;rw[ax]at hl;exact⟨true,b,0,hb,hl,(afN hd.1 hs).1 _ hc,(abq hd.1 hs).1 _ hc,by simp,fun h=>by cases h⟩
 · have hn:∀c,¬Wh d s c:=fun c hc=>h ⟨c,hc⟩
   obtain⟨e,he,C6⟩:=(abq hd.1 hs).2 hn;exact⟨false,[],e,(fun x hx=>by cases hx),dc,(afN hd.1 hs).2 hn,C6,by simp[he],fun _=>rfl⟩
theorem ZD (b:List Nat):(∃e:Int,e≠0∧pt b=ov e)∨∃(a g r n c0 c1 c2 c3 c4 c5:Int) (l:List It),l.length≤b.length∧pt b=[.i 0,.i a,.i g,.i r,.i n,.i c0,.i c1,.i c2,.i c3,.i c4,.i c5,.r (l.map aU)]:=by
 unfold pt;by_cases h1:b.length<52
 · rw[au h1];exact .inl ⟨4,dc,rfl⟩
 rw[aE h1];by_cases h2:ba b 0 4≠ [78,73,68,88]
 · rw[au h2];exact .inl ⟨3,dc,rfl⟩
 rw[aE h2];by_cases h3:(b.length:Int)<xO b
 · rw[au h3];exact .inl ⟨4,dc,rfl⟩
 rw[aE h3];by_cases h4:xO b<b.length
 · rw[au h4];exact .inl ⟨3,dc,rfl⟩
 rw[aE h4];by_cases h5:dN (ba b 0 (b.length-4))≠ba b (b.length-4) b.length
 · rw[au h5];exact .inl ⟨5,dc,rfl⟩
 rw[aE h5];have hl:=sA b 48 (b.length-4);generalize ba b 48 (b.length-4)=c at hl;rcases G3 (f:=c.length+1) (c:=c) (acc:=[]) om with⟨l,e1,e2,e3⟩| ⟨e,e1,e2⟩
 · rw[e1];have e3:l.length≤0+c.length:=e3;by_cases h6:∃m:List It,l.map aU=m.map aU∧jo (val (ba b 4 6)).toInt (val (ba b 6 8)).toInt (val (ba b 8 12)).toInt (val (ba b 12 20)).toInt m
   · refine .inr ⟨(val (ba b 4 6)).toInt,(val (ba b 6 8)).toInt,(val (ba b 8 12)).toInt,(val (ba b 12 20)).toInt,c9 b 0,c9 b 1,c9 b 2,c9 b 3,c9 b 4,c9 b 5,l,om,?_⟩;exact(aE (fun h=>h rfl)).trans (au h6)
   · refine .inl ⟨3,dc,?_⟩;exact(aE (fun h=>h rfl)).trans (aE h6)
 · rw[e2];exact .inl ⟨e,e1,au e1⟩
def va (n:Nat):cn:=cond (Nat.beq n 0) ⟨#[]⟩ ⟨#[118,46,49,46,UInt8.ofNat (48+n),46,105,100,120]⟩
def pA (n k:Nat):cn:=cond (Nat.beq n 0) ⟨#[]⟩ ⟨#[118,46,49,46,UInt8.ofNat (48+n),46,101,99,UInt8.ofNat (48+k)]⟩
noncomputable section
def acg:=rG aau []
theorem aoP:Gk acg DA:=rK [] trivial
def Lm:List L→Option (List L):=ou
theorem Mn:Gk Lm ou:=fun _ _ h=>h
def abS:=rG afr [(2021,Lm)]
theorem anQ:Gk abS Gb:=rK [(2021,ou)] ⟨aG rfl Mn,trivial⟩
def Xj:List L→Option (List L):=vF
theorem aoT:Gk Xj vF:=fun _ _ h=>h
def OJ:=rG ado [(332,acg),(2021,Lm),(331,abS),(2022,Xj)]
theorem WL:Gk OJ yR:=rK [(332,DA),(2021,ou),(2021,ou),(331,Gb),(2022,vF)] ⟨aG rfl aoP,aG rfl Mn,aG rfl Mn,aG rfl anQ,aG rfl aoT,trivial⟩
def Y_:=rG Xy [(336,OJ)]
theorem amx:Gk Y_ He:=rK [(336,yR)] ⟨aG rfl WL,trivial⟩
def Zi:=rG K5 []
theorem aGf:Gk Zi yd:=rK [] trivial
def g53:=rG XB []
theorem Q6:Gk g53 nk:=rK [] trivial
def Nn:=rG Yn [(54,Zi),(53,g53)]
theorem UF:Gk Nn ql:=rK [(54,yd),(53,nk),(53,nk),(53,nk)] ⟨aG rfl aGf,aG rfl Q6,aG rfl Q6,aG rfl Q6,trivial⟩
def g56:=rG abL [(55,Nn)]
theorem aBd:Gk g56 oq:=rK [(55,ql)] ⟨aG rfl UF,trivial⟩
def g68:=rG afM [(55,Nn)]
theorem avG:Gk g68 xX:=rK [(55,ql)] ⟨aG rfl UF,trivial⟩
end
theorem awG:(List.range 4).all (fun n=>mz (Y_ [.i 4,.i 1,.i (n:Nat)]) [.s (va n)])=true:=kr
theorem asQ:(List.range 4).all (fun n=>mz (g56 [.i 4,.i 1,.i (n:Nat)]) [.s (va n)])=true:=kr
theorem aww:(List.range 24).all (fun j=>mz (OJ [.i 5,.i 1,.i (j/6:Nat),.i (j%6:Nat),.b false]) [.s (pA (j/6) (j%6)),.i (cond (Nat.beq (j/6) 0) 1 0)])=true:=kr
theorem azy:(List.range 24).all (fun j=>mz (g68 [.i 1,.i (j/6:Nat),.i (j%6:Nat)]) [.s (pA (j/6) (j%6))])=true:=kr
theorem afx {n:Nat} (h:n<4):He [.i 4,.i 1,.i (n:Nat)]=some [.s (va n)]:=amx _ _ (nC (bk.1 awG _ (ko.2 h)))
theorem Lu {n:Nat} (h:n<4):oq [.i 4,.i 1,.i (n:Nat)]=some [.s (va n)]:=aBd _ _ (nC (bk.1 asQ _ (ko.2 h)))
theorem amh {n k:Nat} (h:n<4) (hk:k<6):∃e:Int,yR [.i 5,.i 1,.i (n:Nat),.i (k:Nat),.b false]=some [.s (pA n k),.i e]:=by
 have:=WL _ _ (nC (bk.1 aww _ (ko.2 (show n*6+k<24 by omega))));rw[show(n*6+k) /6=n by omega,show(n*6+k)%6=k by omega]at this;exact⟨_,this⟩
theorem ajQ {n k:Nat} (h:n<4) (hk:k<6):xX [.i 1,.i (n:Nat),.i (k:Nat)]=some [.s (pA n k)]:=by
 have:=avG _ _ (nC (bk.1 azy _ (ko.2 (show n*6+k<24 by omega))))
 rwa [show(n*6+k) /6=n by omega,show(n*6+k)%6=k by omega]at this
theorem aoU (n:Nat):(va n).size≤4611686018427387904:=by
 unfold va
 cases Nat.beq n 0 with
 |true=>exact(by decide:(0:Nat)≤4611686018427387904)
 |false=>exact(by decide:(9:Nat)≤4611686018427387904)
theorem anb (n k:Nat):(pA n k).size≤4611686018427387904:=by
 unfold pA
 cases Nat.beq n 0 with
 |true=>exact(by decide:(0:Nat)≤4611686018427387904)
 |false=>exact(by decide:(9:Nat)≤4611686018427387904)
theorem Uo {α β:Type} (g:α→β) (f:Nat→α) (i:Nat):((List.range i).map f).map g++ [g (f i)]=((List.range (i+1)).map f).map g:=by
 rw[SP,ej,ej];rfl
theorem aFX {d:Dk} {n:Nat} (hn:n<4) {sh:Nat→Bool×List Nat} (h:∀k,k<6→∃e:Int,pj [.i d.cap,.i d.left,.r (d.files.map aY),.s (pA n k)]=some [.r ((sh k).2.map b1),.i e]∧((sh k).1=true ↔ e=0)):
   PZ [.i d.cap,.i d.left,.r (d.files.map aY),.i 1,.i (n:Nat)]=some [.r (((List.range 6).map fun k=> (sh k).2).map fR),.r (((List.range 6).map fun k=> (sh k).1).map hR)]:=by
 refine a_ ?_;unfold Ye;refine aH (fun xs=>xs=[.r (((List.range 6).map fun k=> (sh k).2).map fR),.r (((List.range 6).map fun k=> (sh k).1).map hR)]) ?_ ?_;rotate_left
 · rintro _ rfl;refine nW ?_;exact ae rfl
 refine wp_loop (I:=fun x=>∃i:Nat,x=[.i i,.r (((List.range i).map fun k=> (sh k).2).map fR),.r (((List.range i).map fun k=> (sh k).1).map hR)]∧i≤6) (mu:=fun x=>match x with|[.i i,_,_]=>6-i.toNat|_=>0) ⟨0,rfl,om⟩ ?_;rintro x ⟨i,rfl,e1⟩;refine uR ?_;refine aP rfl (fun hc=> ?_) (fun hc=> ?_);rotate_left
 · have hc:¬(i:Int)<6:=hc;obtain rfl:i=6:=om;exact ae rfl
 have hc:(i:Int)<6:=hc;obtain⟨e,h1,h2⟩:=h i om;refine ay (ajQ hn (show i<6 by omega)) rfl rfl (nW ?_);refine ay h1 rfl rfl (uR ?_);refine ee (r:=((List.range (i+1)).map fun k=> (sh k).2).map fR) (AQ _) rfl (by try dsimp only[At.ev,d1,d2,d3,d4,d5,d6,d7,d8,d9,e0,List.map,bp,Kd.pv];rw[ax,ax,aiX];omega) oO dc (Uo fR (fun k=> (sh k).2) i) (uR ?_);have hap:=Uo hR (fun k=> (sh k).1) i;have hde:(sh i).1=decide (e=0):=by rw[iN,cg];exact h2
 have hap:((List.range i).map fun k=> (sh k).1).map hR++ [hR (sh i).1]=((List.range (i+1)).map fun k=> (sh k).1).map hR:=hap;rw[hde]at hap;have pP:bA 1 (((List.range i).map fun k=> (sh k).1).map hR)=true:=by
   unfold bA;rw[bk];intro x hx;obtain⟨y,_,rfl⟩:=dy.1 hx;rfl
 refine ee (r:=((List.range (i+1)).map fun k=> (sh k).1).map hR) pP rfl (by try dsimp only[At.ev,d1,d2,d3,d4,d5,d6,d7,d8,d9,e0,List.map,bp,Kd.pv];rw[ax,ax,aiX];omega) oO dc hap (nW ?_);refine bP (i:=i) rfl om (nW ?_);refine ae ⟨⟨i+1,rfl,om⟩,?_⟩;show 6- ((i+1:Nat):Int).toNat<6-i;omega
theorem aEe {d:Dk} (hd:mr d) {n:Nat} (hn:n<4) (x:It):∃(e key cookie:Int) (del:Bool) (data:List Nat),Eh [.i d.cap,.i d.left,.r (d.files.map aY),.i 1,.i (n:Nat),.i x.key,.i x.cookie,.i x.off,.i x.size]=some [.i e,.i key,.i cookie,.b del,.r (data.map b1)]∧EN [.i d.cap,.i d.left,.r (d.files.map aY),.i 1,.i (n:Nat),.i x.key,.i x.cookie,.i x.off,.i x.size]=some [.i e,.i key,.i cookie,.b del,.r (data.map b1)]:=by
 by_cases h0:d.left=0
 · refine⟨13,0,0,false,[],?_,?_⟩
   · refine a_ ?_;unfold Gg;refine uR ?_;refine iy rfl h0 ?_;exact ae rfl
   · refine a_ ?_;unfold Gd;refine uR ?_;refine iy rfl h0 ?_;exact ae rfl
 obtain⟨t,b,e0,hb,hbl,hwP,Sv,hte,htb⟩:=aex hd (s:=va n) (aoU n);have zq:=aBz b hb om;have Iw:=aDo b hb om;have bad:(t=false∨∃e:Int,e≠0∧pt b=ov e)→Eh [.i d.cap,.i d.left,.r (d.files.map aY),.i 1,.i (n:Nat),.i x.key,.i x.cookie,.i x.off,.i x.size]=some [.i 11,.i 0,.i 0,.b false,.r []]∧EN [.i d.cap,.i d.left,.r (d.files.map aY),.i 1,.i (n:Nat),.i x.key,.i x.cookie,.i x.off,.i x.size]=some [.i 11,.i 0,.i 0,.b false,.r []]:=by
   intro eh;constructor
   · refine a_ ?_;unfold Gg;refine uR ?_;refine cJ rfl h0 ?_;refine ay (afx hn) rfl rfl (nW ?_);refine ay hwP rfl rfl (nW ?_);rcases ZD b with⟨e,he,rF⟩| ⟨a,g,r,m,c0,c1,c2,c3,c4,c5,l,zj,rF⟩
     · rw [rF]at zq;refine nq (f:=aU) (m:=[]) (fun _=>rfl) zq rfl rfl (nW ?_);refine aH (fun xs=>xs=[.b true]) ?_ ?_
       · refine uR ?_;refine bg (fun hx=> ?_) (fun hx=> ?_)
         · exact ae rfl
         · refine uR ?_;refine ae ?_;exact dT he
       rintro _ rfl;refine nW ?_;refine iz rfl ?_;exact ae rfl
     · have ht:t=false:=by
         rcases eh with h| ⟨e,he,h⟩
         · exact h
         · rw[h]at rF;have:=(List.cons.inj rF).1;injection this with this
           exact absurd this he
       rw[rF]at zq;subst ht;refine nq (f:=aU) (m:=l) (fun _=>rfl) zq rfl rfl (nW ?_);refine aH (fun xs=>xs=[.b true]) ?_ ?_
       · refine uR ?_;refine iz rfl ?_;exact ae rfl
       rintro _ rfl;refine nW ?_;refine iz rfl ?_;exact ae rfl
   · have aIX:∃e:Int,e≠0∧DV [.i d.cap,.i d.left,.r (d.files.map aY),.i 1,.i (n:Nat)]=some (ov e):=by
       by_cases zr:e0=0
       · have ht:t=true:=hte.2 zr;rcases eh with h| ⟨e,he,h⟩
         · rw[ht]at h;cases h
         · refine⟨e,he,a_ ?_⟩;unfold Gs;refine ay (Lu hn) rfl rfl (nW ?_);refine ay Sv rfl rfl (uR ?_);refine cJ rfl (fun h=>h zr) ?_;rw[h]at Iw;refine ay Iw rfl rfl (nW ?_);exact ae rfl
       · refine⟨e0,zr,a_ ?_⟩;unfold Gs;refine ay (Lu hn) rfl rfl (nW ?_);refine ay Sv rfl rfl (uR ?_);refine iy rfl zr ?_;exact ae rfl
     obtain⟨e,he,Sw⟩:=aIX;refine a_ ?_;unfold Gd;refine uR ?_;refine cJ rfl h0 ?_;refine ay Sw rfl rfl ?_;dsimp only[ov];refine uR ?_;refine iy rfl he ?_;exact ae rfl
 cases t with
 |false=>exact⟨11,0,0,false,[],bad (.inl rfl)⟩
 | true=>
   rcases ZD b with iL| ⟨a,g,r,m,c0,c1,c2,c3,c4,c5,l,zj,rF⟩
   · exact⟨11,0,0,false,[],bad (.inr iL)⟩
   have zr:e0=0:=hte.1 rfl;subst zr;rw[rF]at zq Iw;have hex:∀k:Nat,∃s:Bool×List Nat,B8 s.2∧s.2.length≤1048576∧vl [.i d.cap,.i d.left,.r (d.files.map aY),.s (pA n k)]=some [.b s.1,.r (s.2.map b1)]∧∃e:Int,pj [.i d.cap,.i d.left,.r (d.files.map aY),.s (pA n k)]=some [.r (s.2.map b1),.i e]∧(s.1=true ↔ e=0):=fun k=>by
     obtain⟨t,b,e,h1,h2,h3,h4,h5,_⟩:=aex hd (s:=pA n k) (anb n k);exact⟨(t,b),h1,h2,h3,e,h4,h5⟩
   obtain⟨sh,nJ⟩:=Classical.axiomOfChoice hex;have hfR:=aFX (d:=d) hn (sh:=sh) fun k _=> (nJ k).2.2.2
   obtain⟨fs,kK⟩:∃fs,(List.range 6).map (fun k=> (sh k).2)=fs:=⟨_,rfl⟩
   obtain⟨hv,Sx⟩:∃hv,(List.range 6).map (fun k=> (sh k).1)=hv:=⟨_,rfl⟩
   have Ix:fs.length=6:=by rw[←kK];simp
   have Iy:hv.length=6:=by rw[←Sx];simp
   have wc:∀k (h:k<fs.length),fs[k]=(sh k).2:=by subst kK;intro k h;simp
   have Ip:∀k (h:k<hv.length),hv[k]=(sh k).1:=by subst Sx;intro k h;simp
   have hB:∀f∈fs,B8 f:=fun f hf=>by
     obtain⟨k,hk,rfl⟩:=lQ hf;rw[wc];exact(nJ k).1
   rw[kK,Sx]at hfR;obtain⟨e,key,cookie,del,data,hPP,C6⟩:=ajS a g r m (.i c0) (.i c1) (.i c2) (.i c3) (.i c4) (.i c5) (l:=l) om Ix Iy hB x;refine⟨e,key,cookie,del,data,?_,?_⟩
   · refine a_ ?_;unfold Gg;refine uR ?_;refine cJ rfl h0 ?_;refine ay (afx hn) rfl rfl (nW ?_);refine ay hwP rfl rfl (nW ?_);refine nq (f:=aU) (m:=l) (fun _=>rfl) zq rfl rfl (nW ?_);refine aH (fun xs=>xs=[.b false]) ?_ ?_
     · refine uR ?_;refine cW rfl (uR ?_);refine ae ?_;exact dF (fun h=>h rfl)
     rintro _ rfl;refine nW ?_;refine cW rfl ?_;refine pB (r:=(List.replicate 6 ([]:List Nat)).map fR) (by try dsimp only[At.ev,d1,d2,d3,d4,d5,d6,d7,d8,d9,e0,List.map,bp,Kd.pv];exact⟨dc,dc,dc⟩) rfl (nW ?_);refine pB (r:=(List.replicate 6 false).map hR) (by try dsimp only[At.ev,d1,d2,d3,d4,d5,d6,d7,d8,d9,e0,List.map,bp,Kd.pv];exact⟨dc,dc,dc⟩) rfl (nW ?_);refine aH (fun xs=>xs=[.r (fs.map fR),.r (hv.map hR)]) ?_ ?_
     · refine uR ?_;refine wp_loop (I:=fun y=>∃i:Nat,y=[.i i,.r ((eT [] fs 6 i).map fR),.r ((eT false hv 6 i).map hR)]∧i≤6) (mu:=fun y=>match y with|[.i i,_,_]=>6-i.toNat|_=>0) ⟨0,rfl,om⟩ ?_;rintro y ⟨i,rfl,e1⟩;have oP:=DD (d:=([]:List Nat)) Ix e1;have hhl:=DD (d:=false) Iy e1;refine uR ?_;refine aP rfl (fun hc=> ?_) (fun hc=> ?_);rotate_left
       · have hc:¬(i:Int)<6:=hc;obtain rfl:i=6:=om;refine ae ?_;show[L.r ((eT [] fs 6 6).map fR),L.r ((eT false hv 6 6).map hR)]=_;rw[DK Ix,DK Iy]
       have hc:(i:Int)<6:=hc;have hi:i<6:=om;have hst:=DB (d:=([]:List Nat)) Ix hi (wc i om).symm;have hsu:=DB (d:=false) Iy hi (Ip i om).symm;obtain⟨e',kF⟩:=amh hn hi;refine ay kF rfl rfl (nW ?_);refine ay (nJ i).2.2.1 rfl rfl (nW ?_);refine bz (f:=fR) (j:=i) rfl rfl (show i< (eT [] fs 6 i).length by omega) rfl (nW ?_);refine lu (f:=fR) (j:=i) (v:=(sh i).2) rfl rfl (show i< (eT [] fs 6 i).length by omega) rfl rfl ?_;rw[hst];refine nW ?_;refine bz (f:=hR) (j:=i) rfl rfl (show i< (eT false hv 6 i).length by omega) rfl (nW ?_);refine lu (f:=hR) (j:=i) (v:=(sh i).1) rfl rfl (show i< (eT false hv 6 i).length by omega) rfl rfl ?_;rw[hsu];refine nW ?_;refine bP (i:=i) rfl om (nW ?_);refine ae ⟨⟨i+1,rfl,om⟩,?_⟩;show 6- ((i+1:Nat):Int).toNat<6-i;omega
     rintro _ rfl;refine nW ?_;refine nq (f:=b1) (m:=data) (fun _=>rfl) hPP rfl rfl (nW ?_);exact ae rfl
   · have Sw:DV [.i d.cap,.i d.left,.r (d.files.map aY),.i 1,.i (n:Nat)]=some [.i 0,.i a,.i g,.i r,.i m,.i c0,.i c1,.i c2,.i c3,.i c4,.i c5,.r (l.map aU)]:=by
       refine a_ ?_;unfold Gs;refine ay (Lu hn) rfl rfl (nW ?_);refine ay Sv rfl rfl (uR ?_);refine cJ rfl (fun h=>h rfl) ?_;refine ay Iw rfl rfl (nW ?_);exact ae rfl
     refine a_ ?_;unfold Gd;refine uR ?_;refine cJ rfl h0 ?_;refine ay Sw rfl rfl (uR ?_);refine cJ rfl (fun h=>h rfl) ?_;refine ay hfR rfl rfl (nW ?_);refine nq (f:=b1) (m:=data) (fun _=>rfl) C6 rfl rfl (nW ?_);exact ae rfl
theorem wW (l:List Fl):bA 3 (l.map aY)=true:=by
 unfold bA;rw[bk];intro x hx;obtain⟨y,_,rfl⟩:=dy.1 hx;rfl
theorem aFZ (l:List Wr):bA 3 (l.map ep)=true:=by
 unfold bA;rw[bk];intro x hx;obtain⟨y,_,rfl⟩:=dy.1 hx;rfl
def Zo (f:Fl):Prop:=eK f.base∧f.base.length≤4294967296∧f.aR.length≤4294967296∧f.name.size≤4611686018427387904∧∀w∈f.aR,eK w.data∧w.data.length≤4294967296
theorem nU {d:Dk}:mr d ↔ d.files.length≤4294967296∧∀f∈d.files,Zo f:=by
 constructor
 · rintro⟨⟨h1,h2⟩,h3⟩;exact⟨h1,fun f hf=> ⟨(h3 f hf).1,(h2 f hf).1.2.1,(h2 f hf).1.2.2.1,(h2 f hf).2,fun w hw=> ⟨(h3 f hf).2 w hw,((h2 f hf).1.2.2.2 w hw).2⟩⟩⟩
 · rintro⟨h1,h2⟩;exact⟨⟨h1,fun f hf=> ⟨⟨(h2 f hf).1.afi,(h2 f hf).2.1,(h2 f hf).2.2.1,fun w hw=> ⟨((h2 f hf).2.2.2.2 w hw).1.afi,((h2 f hf).2.2.2.2 w hw).2⟩⟩,(h2 f hf).2.2.2.1⟩⟩,fun f hf=> ⟨(h2 f hf).1,fun w hw=> ((h2 f hf).2.2.2.2 w hw).1⟩⟩
theorem avM {d:Dk} (hd:mr d):Fj [.i d.cap,.i d.left,.r (d.files.map aY)]=some [.r (d.files.map aY)]:=by
 show AV _=_;obtain⟨hl,hg⟩:=nU.1 hd;refine a_ ?_;unfold Lt;refine aH (fun xs=>xs=[.r (d.files.map aY)]) ?_ ?_;rotate_left
 · rintro _ rfl;refine nW ?_;exact ae rfl
 refine uR ?_;refine wp_loop (I:=fun x=>∃i:Nat,x=[.i i,.r ((d.files.take i).map aY)]∧i≤d.files.length) (mu:=fun x=>match x with|[.i i,_]=>d.files.length-i.toNat|_=>0) ⟨0,rfl,om⟩ ?_;rintro x ⟨i,rfl,e1⟩;refine uR ?_;refine aP rfl (fun hc=> ?_) (fun hc=> ?_);rotate_left
 · rw[ax]at hc;refine ae ?_;show[L.r ((d.files.take i).map aY)]=_;rw[ir om]
 rw[ax]at hc;have hi:i<d.files.length:=om;have fu:=hg _ (b9 hi);refine bz (f:=aY) (j:=i) rfl rfl hi rfl (uR ?_);obtain⟨f,hf⟩:∃f,d.files[i]=f:=⟨_,rfl⟩
 rw[hf]at fu⊢;have hpl:f.aR.length≤4294967296:=fu.2.2.1;refine aH (fun xs=>xs=[.r (f.aR.map ep)]) ?_ ?_
 · refine HA (nW ?_);refine wp_loop (I:=fun x=>∃k:Nat,x=[.i k,.r ((f.aR.take k).map ep)]∧k≤f.aR.length) (mu:=fun x=>match x with|[.i i,_]=>f.aR.length-i.toNat|_=>0) ⟨0,rfl,om⟩ ?_;rintro x ⟨k,rfl,e2⟩;refine uR ?_;refine aP rfl (fun hc=> ?_) (fun hc=> ?_);rotate_left
   · rw[ax]at hc;refine ae ?_;show[L.r ((f.aR.take k).map ep)]=_;rw[ir om]
   rw[ax]at hc;have hk:k<f.aR.length:=om;refine bz (f:=ep) (j:=k) rfl rfl hk rfl (uR ?_);refine ee (r:=(f.aR.take (k+1)).map ep) (aFZ _) rfl oO oO dc (by rw[iQ hk,ej];rfl) (nW ?_);refine bP (i:=k) rfl om (nW ?_);refine ae ⟨⟨k+1,rfl,om⟩,?_⟩;show f.aR.length- ((k+1:Nat):Int).toNat<f.aR.length-k;omega
 rintro _ rfl;refine uR ?_;refine ee (r:=(d.files.take (i+1)).map aY) (wW _) rfl oO oO dc (by rw[iQ hi,ej,hf];rfl) (nW ?_);refine bP (i:=i) rfl om (nW ?_);refine ae ⟨⟨i+1,rfl,om⟩,?_⟩;show d.files.length- ((i+1:Nat):Int).toNat<d.files.length-i;omega
theorem aAZ (a b c:L) (n:Int):∃m:Int,Mh [a,b,c,.i n]=some [.i m]:=by
 refine⟨max (-1) n,a_ ?_⟩;unfold Yc;refine QP (n:=max (-1) n) rfl (nW ?_);exact ae rfl
theorem mo (key cookie:Int) (del:Bool) (b:List Nat):PC [.i key,.i cookie,.b del,.r (b.map b1),.i key,.i cookie,.b del,.r (b.map b1)]=some [.b true]:=by
 refine a_ ?_;unfold Tb;refine aH (fun xs=>xs=[.b true]) ?_ ?_
 · refine uR ?_;refine iy rfl rfl (uR ?_);refine iy rfl rfl (uR ?_);refine iz (by cases del<;>rfl) ?_;refine pw rfl (nW ?_);refine pw rfl (nW ?_);refine pd (l:= .b true) (by
    show some (L.b ((nz b).toList==(nz b).toList))=_;rw[show((nz b).toList==(nz b).toList)=true from beq_self_eq_true _]) ?_
   refine nW ?_;exact ae rfl
 rintro _ rfl;refine nW ?_;exact ae rfl
def nR (s:cn):List PV:=[.sc (.string s)]
theorem aFy {d:Dk} (hd:mr d):∃ns:List cn,Jn [.i d.cap,.i d.left,.r (d.files.map aY)]=some [.r (ns.map nR)]∧ns.length≤4294967296∧∀s∈ns,s.size≤4611686018427387904:=by
 obtain⟨hl,hg⟩:=nU.1 hd;obtain⟨b,hb⟩:=du (nh d);have hv:=OL hd.1 hb;have run:ad.wp Nl [.i d.cap,.i d.left,.r (d.files.map aY)] (b8 fun y=>∃ns:List cn,y=[.r (ns.map nR)]∧ns.length≤4294967296∧∀s∈ns,s.size≤4611686018427387904):=by
  unfold Nl;refine aH (fun xs=>∃ns:List cn,xs=[.r (ns.map nR)]∧ns.length≤4294967296∧∀s∈ns,s.size≤4611686018427387904) ?_ ?_;rotate_left
  · rintro _ ⟨ns,rfl,h1,h2⟩;refine nW ?_;exact ae ⟨ns,rfl,h1,h2⟩
  refine wp_loop (I:=fun x=>∃(i:Nat) (ns:List cn),x=[.i i,.r (ns.map nR)]∧i≤d.files.length∧ns.length=i∧∀s∈ns,s.size≤4611686018427387904) (mu:=fun x=>match x with|[.i i,_]=>d.files.length-i.toNat|_=>0) ⟨0,[],rfl,om,rfl,fun s hs=>by cases hs⟩ ?_;rintro x ⟨i,ns,rfl,e1,e2,e3⟩;refine nW ?_;refine aH (cV (i<d.files.length∧b=true)) ?_ ?_
  · refine uR ?_;refine aP rfl (fun hc=> ?_) (fun hc=> ?_)
    · rw[ax]at hc;refine ay hv rfl rfl (nW ?_);exact ae ⟨b,rfl,⟨fun h=> ⟨om,h⟩,fun h=>h.2⟩⟩
    · rw[ax]at hc;exact ae (fl om)
  rintro _ ⟨t,rfl,ht⟩;refine nW ?_;refine bg (fun hc=> ?_) (fun hc=> ?_);rotate_left
  · exact ae ⟨ns,rfl,om,e3⟩
  have hi:=(ht.1 hc).1;refine bz (f:=aY) (j:=i) rfl rfl hi rfl (uR ?_);refine ee (r:=(ns++ [d.files[i].name]).map nR) (by
    unfold bA;rw[bk];intro x hx;obtain⟨y,_,rfl⟩:=dy.1 hx;rfl) rfl oO oO dc (by rw[ej];rfl) ?_
  refine nW ?_;refine bP (i:=i) rfl om (nW ?_);refine ae ⟨⟨i+1,ns++ [d.files[i].name],rfl,om,by rw[dL,e2];rfl,fun s hs=> ?_⟩,?_⟩
  · rcases ei.1 hs with hs|hs
    · exact e3 s hs
    · rw[eS.1 hs];exact(hg _ (b9 hi)).2.2.2.1
  · show d.files.length- ((i+1:Nat):Int).toNat<d.files.length-i;omega
 obtain⟨o,h1,ns,rfl,h2⟩:=iS run;exact⟨ns,h1,h2⟩
def B6 (y:List L):Prop:=∃(e:Int) (d:Dk),y=[.i e,.i d.cap,.i d.left,.r (d.files.map aY)]∧mr d
theorem Al (e:Int):B6 [.i e,.i 0,.i 0,.r []]:=⟨e,⟨0,0,[]⟩,rfl,nU.2 ⟨dc,fun f hf=>by cases hf⟩⟩
theorem ata (n:Int):∃y:Nat,y<256∧IntKind.wrap .u8 n=y:=by
 have h:=GW .u8 n;have h1:(0:Int)≤IntKind.wrap .u8 n:=h.1;have h2:IntKind.wrap .u8 n≤255:=h.2;exact⟨(IntKind.wrap .u8 n).toNat,om,om⟩
theorem awQ {d:Dk} (hd:mr d) {s:cn} (hs:s.size≤4611686018427387904) (bit:Int) (hb0:bit≤9223372036854775807):∃y,PJ [.i d.cap,.i d.left,.r (d.files.map aY),.s s,.i bit]=some y∧B6 y:=by
 obtain⟨hl,hg⟩:=nU.1 hd;obtain⟨b,hb⟩:=du (nh d);have hv:=OL hd.1 hb;obtain⟨c,hc⟩:=du (gH s);have hn:=Jy s hs hc;obtain⟨r,hr1,hr2⟩:∃r:Int,(∀i,iv d s i→r=i)∧(nt d s→r= -1):=by
  rcases Am d s with h| ⟨i,h⟩
  · exact⟨-1,⟨fun i hi=> (by obtain⟨a1,a2,_⟩:=hi;rw[h i a1]at a2;cases a2),fun _=>rfl⟩⟩
  · exact⟨i,⟨fun j hj=> (by rw[h.uniq hj]),fun hn=> (by obtain⟨a1,a2,_⟩:=h;rw[hn i a1]at a2;cases a2)⟩⟩
 have hf:=aej (s:=s) hl hr1 hr2;have nM:0≤r→∃i:Nat,r=i∧i<d.files.length:=fun h0=>by
  rcases Am d s with h| ⟨i,h⟩
  · have:=hr2 h;omega
  · exact⟨i,hr1 i h,h.1⟩
 have run:ad.wp Q9 [.i d.cap,.i d.left,.r (d.files.map aY),.s s,.i bit] (b8 B6):=by
  unfold Q9;refine aH (fun xs=>∃t:Bool,xs=[.b t]) ?_ ?_
  · refine ay hv rfl rfl (uR ?_);refine bg (fun hx=> ?_) (fun hx=> ?_)
    · exact ae ⟨_,rfl⟩
    · refine ay hn rfl rfl (uR ?_);exact ae ⟨_,rfl⟩
  rintro _ ⟨t,rfl⟩;refine nW ?_;refine bg (fun hx=> ?_) (fun hx=> ?_)
  · exact ae (Al 1)
  refine ay hf rfl rfl (uR ?_);refine aP rfl (fun hy=> ?_) (fun hy=> ?_)
  · exact ae (Al 6)
  obtain⟨i,rfl,hi⟩:=nM om;have fu:=hg _ (b9 hi);obtain⟨f,y9⟩:∃f,d.files[i]=f:=⟨_,rfl⟩
  rw[y9]at fu;have gA:(d.files.map aY)[i]? =some (aY f):=by rw[bO,bX hi,y9];rfl
  refine oe (r:=aY f) (show(0:Int)≤(i:Int)by omega) gA rfl (uR ?_);refine aP rfl (fun hz=> ?_) (fun hz=> ?_)
  · exact ae (Al 12)
  obtain⟨bs,hB,iK⟩:=fu.1;have hbl:bs.length≤4294967296:=by have:=fu.2.1;rw[iK,ax]at this;exact this
  refine aH (fun xs=>∃t:Bool,xs=[.b t]∧(t=false→0≤bit∧bit/8< (bs.length:Int))) ?_ ?_
  · refine uR ?_;refine aP rfl (fun hq=> ?_) (fun hq=> ?_)
    · exact ae ⟨true,rfl,fun h=>by cases h⟩
    · refine FN (n:=bit) (c:=8) rfl rfl om om dc (nW ?_);refine oe (r:=aY f) (show(0:Int)≤(i:Int)by omega) gA rfl (uR ?_);refine ae ⟨_,rfl,fun h=> ⟨om,?_⟩⟩;have h:=eo h;rw[iK,ax]at h;omega
  rintro _ ⟨t2,rfl,oK⟩;refine nW ?_;refine bg (fun hq=> ?_) (fun hq=> ?_)
  · exact ae (Al 2)
  obtain⟨q0,q1⟩:=oK hq;obtain⟨j,hj⟩:∃j:Nat,bit/8=j:=⟨(bit/8).toNat,om⟩
  have pV:j<bs.length:=om;refine uR ?_;refine oe (r:=aY f) (show(0:Int)≤(i:Int)by omega) gA rfl (uR ?_);refine ee (r:=bs.map b1) rfl (by show bA 1 f.base=true;rw[iK];exact kZ _) oO (by show f.base.length≤_;rw[iK,ax];omega) dc (by show[]++f.base=_;rw[iK];rfl) (nW ?_);refine FN (n:=bit) (c:=8) rfl rfl om om dc ?_;rw[hj];refine nW ?_;refine bz (f:=b1) (j:=j) rfl rfl pV rfl (nW ?_);refine dV (f:=b1) (j:=j) rfl rfl pV rfl rfl (nW ?_);refine Fk (n:=bit) (c:=8) rfl rfl om dc (nW ?_);refine qp (n:=bit%8) rfl om om (nW ?_);obtain⟨v,kL,hv2⟩:=ata (1*2^ (min (bit%8).toNat IntKind.u8.bits));refine b5 (l:= .i (v:Nat)) (by
    show(if 0≤bit%8 then some (L.i (IntKind.wrap .u8 (1*2^ (min (bit%8).toNat IntKind.u8.bits))))else none)=_;rw[au om,hv2]) ?_
  refine nW ?_;refine b5 (l:= .i ((bs[j] ^^^v:Nat):Int)) (LW (hB _ (b9 pV)) kL) (nW ?_);refine bz (f:=b1) (j:=j) rfl rfl pV rfl (nW ?_);refine lu (f:=b1) (j:=j) (v:=bs[j] ^^^v) rfl rfl pV rfl rfl (uR ?_);refine ee (r:=d.files.map aY) rfl (wW _) oO oO dc rfl (nW ?_);refine oe (r:=aY f) (show(0:Int)≤(i:Int)by omega) gA rfl (nW ?_);obtain⟨ns,fp⟩:∃ns,bs.set j (bs[j] ^^^v)=ns:=⟨_,rfl⟩
  rw[fp];refine afa (r:=aY f) gA (by show 1+1≤3;decide) ?_;refine ae ?_;refine⟨0,⟨d.cap,d.left,d.files.set i ⟨f.name,ns.map b1,f.aR⟩⟩,?_,nU.2 ⟨by show(d.files.set i _).length≤_;rw[zI];exact hl,fun g iI=> ?_⟩⟩
  · show[L.i 0,L.i d.cap,L.i d.left,L.r ((d.files.map aY).set i (aY ⟨f.name,ns.map b1,f.aR⟩))]=_;rw[List.map_set]
  · rcases SG iI with h|rfl
    · exact hg g h
    · refine⟨⟨ns,?_,rfl⟩,by show(ns.map b1).length≤_;rw[ax,←fp,zI];exact hbl,fu.2.2⟩;intro y hy;rw[←fp]at hy;rcases SG hy with h|rfl
      · exact hB y h
      · exact zK (n:=8) (hB _ (b9 pV)) kL
 exact iS run
theorem axc {d:Dk} (hd:mr d) {s:cn} (hs:s.size≤4611686018427387904):∃y,BE [.i d.cap,.i d.left,.r (d.files.map aY),.s s]=some y∧B6 y:=by
 obtain⟨hl,hg⟩:=nU.1 hd;obtain⟨a1,a2⟩:=aae hd.1 hs;have dI:∃x:Int,lA [.i d.cap,.i d.left,.r (d.files.map aY)]=some [.i x,.r (d.files.map aY)]:=by
  have run:ad.wp sS [.i d.cap,.i d.left,.r (d.files.map aY)] (b8 fun y=>∃x:Int,y=[.i x,.r (d.files.map aY)]):=by
    unfold sS;refine uR ?_;refine ee (r:=d.files.map aY) rfl (wW _) oO oO dc rfl (nW ?_);refine aH (fun xs=>∃x:Int,xs=[.i x]) ?_ ?_
    · refine uR ?_;refine bg (fun hx=> ?_) (fun hx=> ?_)
      · refine b5 (l:= .i (IntKind.wrap .i64 (d.left-1))) rfl (nW ?_);exact ae ⟨_,rfl⟩
      · exact ae ⟨_,rfl⟩
    rintro _ ⟨x,rfl⟩;refine nW ?_;exact ae ⟨x,rfl⟩
  obtain⟨o,h1,x,rfl⟩:=iS run;exact⟨x,h1⟩
 obtain⟨x,hx⟩:=dI;have run:ad.wp Kb [.i d.cap,.i d.left,.r (d.files.map aY),.s s] (b8 B6):=by
  unfold Kb;by_cases h:Rd d s∧∃i,iv d s i
  · obtain⟨h1,i,h2⟩:=h;have hi:=h2.1;refine ay (a1 i h1 h2) rfl rfl (uR ?_);refine cJ rfl (fun h=>h rfl) ?_;refine ay hx rfl rfl (uR ?_);have hh:qy 3 (d.files.map aY)=true:=by cases d.files<;>rfl
    refine pz ⟨show(0:Int)≤0 by decide,show(0:Int)≤(i:Int)by omega,by show i≤(d.files.map aY).length;rw[ax];omega,hh⟩ (nW ?_);refine Ls (f:=aY) (l:=d.files) (c:=i) rfl rfl (by show((((i:Int).toNat- (0:Int).toNat:Nat)):Int)=i;simp) (nW ?_);refine ee (r:=(d.files.take i).map aY) rfl (wW _) oO oO dc rfl (nW ?_);refine bP (i:=i) rfl om (uR ?_);refine pz ⟨show(0:Int)≤((i+1:Nat):Int)by omega,by show((i+1:Nat):Int)≤((d.files.map aY).length:Int);rw[ax];omega,by show(((d.files.map aY).length:Int)).toNat≤(d.files.map aY).length;omega,hh⟩ (nW ?_);refine Ku ?_;show ad.wp _ (_++ [L.r (((d.files.map aY).drop (i+1)).take (((d.files.map aY).length:Int).toNat- (i+1)))]) _;rw[show((d.files.map aY).drop (i+1)).take (((d.files.map aY).length:Int).toNat- (i+1))=(d.files.drop (i+1)).map aY by
      rw[ir (by rw[fw];omega),p7]]
    refine nW ?_;refine ee (r:=(d.files.take i++d.files.drop (i+1)).map aY) (wW _) (wW _) oO (by show((d.files.drop (i+1)).map aY).length≤_;rw[ax,fw];omega) dc (by rw[ej];rfl) ?_;refine ae ?_;refine⟨0,⟨d.cap,x,d.files.take i++d.files.drop (i+1)⟩,rfl,nU.2 ⟨?_,fun f hf=> ?_⟩⟩
    · show(d.files.take i++d.files.drop (i+1)).length≤_;rw[dL,dX,fw];omega
    · rcases ei.1 hf with hf|hf
      · exact hg f (hU hf)
      · exact hg f (oR hf)
  · obtain⟨e,he,h1⟩:=a2 h;refine ay h1 rfl rfl (uR ?_);refine iy rfl he ?_;exact ae (Al e)
 exact iS run
theorem awt (a b:L) {fs:List Fl} (hl:fs.length≤9223372036854775807) (hp:∀f∈fs,f.aR.length≤9223372036854775807):∃t:Bool,MH [a,b,.r (fs.map aY)]=some [.b t]∧(t=true→fs.length≤12∧∀f∈fs,f.base.length≤500∧f.aR.length≤8∧f.name.size≤100∧∀w∈f.aR,w.data.length≤200):=by
 have run:ad.wp MS [a,b,.r (fs.map aY)] (b8 fun y=>∃t:Bool,y=[.b t]∧(t=true→fs.length≤12∧∀f∈fs,f.base.length≤500∧f.aR.length≤8∧f.name.size≤100∧∀w∈f.aR,w.data.length≤200)):=by
  unfold MS;refine uR ?_;refine aP rfl (fun hc=> ?_) (fun hc=> ?_)
  · exact ae ⟨false,rfl,fun h=>by cases h⟩
  rw[ax]at hc;refine aH (fun xs=>xs=[]∧∀f∈fs,f.base.length≤500∧f.aR.length≤8∧f.name.size≤100∧∀w∈f.aR,w.data.length≤200) ?_ ?_;rotate_left
  · rintro _ ⟨rfl,h⟩;refine nW ?_;exact ae ⟨true,rfl,fun _=> ⟨om,h⟩⟩
  refine uR ?_;refine wp_loop (I:=fun x=>∃i:Nat,x=[.i i]∧i≤fs.length∧∀f∈fs.take i,f.base.length≤500∧f.aR.length≤8∧f.name.size≤100∧∀w∈f.aR,w.data.length≤200) (mu:=fun x=>match x with|[.i i]=>fs.length-i.toNat|_=>0) ⟨0,rfl,om,fun f hf=>by simp at hf⟩ ?_;rintro x ⟨i,rfl,e1,e2⟩;refine uR ?_;refine aP rfl (fun hx=> ?_) (fun hx=> ?_);rotate_left
  · rw[ax]at hx;refine ae ⟨rfl,?_⟩
    rwa [ir om]at e2
  rw[ax]at hx;have hi:i<fs.length:=om;refine aH (fun xs=>xs=[]∧fs[i].base.length≤500∧fs[i].aR.length≤8∧fs[i].name.size≤100∧∀w∈fs[i].aR,w.data.length≤200) ?_ ?_;rotate_left
  · rintro _ ⟨rfl,h⟩;refine nW ?_;refine bP (i:=i) rfl om (nW ?_);refine ae ⟨⟨i+1,rfl,om,fun f hf=> ?_⟩,?_⟩
    · rw[iQ hi]at hf;rcases ei.1 hf with hf|hf
      · exact e2 f hf
      · rw[eS.1 hf];exact h
    · show fs.length- ((i+1:Nat):Int).toNat<fs.length-i;omega
  obtain⟨f,hf⟩:∃f,fs[i]=f:=⟨_,rfl⟩
  have zn:=hp _ (b9 hi);have gA:(fs.map aY)[i]? =some (aY f):=by rw[bO,bX hi,hf];rfl
  rw[hf]at zn⊢;refine oe (r:=aY f) (show(0:Int)≤(i:Int)by omega) gA rfl (uR ?_);refine aH (cV (500<f.base.length∨8<f.aR.length∨100<f.name.size)) ?_ ?_
  · refine uR ?_;refine aP rfl (fun c1=> ?_) (fun c1=> ?_)
    · exact ae (cz (.inl om))
    refine uR ?_;refine aP rfl (fun c2=> ?_) (fun c2=> ?_)
    · rw[ax]at c2;exact ae (cz (.inr (.inl om)))
    rw[ax]at c2;refine Ao (uR ?_);refine ae (fG ?_);omega
  rintro _ ⟨t,rfl,ht⟩;refine nW ?_;refine bg (fun hy=> ?_) (fun hy=> ?_)
  · exact ae ⟨false,rfl,fun h=>by cases h⟩
  have hnt:¬(500<f.base.length∨8<f.aR.length∨100<f.name.size):=fun h=>by have hy:t=false:=hy;rw[ht.2 h]at hy;cases hy
  refine uR ?_;refine wp_loop (I:=fun x=>∃k:Nat,x=[.i k]∧k≤f.aR.length∧∀w∈f.aR.take k,w.data.length≤200) (mu:=fun x=>match x with|[.i i]=>f.aR.length-i.toNat|_=>0) ⟨0,rfl,om,fun w hw=>by simp at hw⟩ ?_;rintro x ⟨k,rfl,f1,f2⟩;refine uR ?_;refine aP rfl (fun hz=> ?_) (fun hz=> ?_);rotate_left
  · rw[ax]at hz;refine ae ⟨rfl,om,om,om,?_⟩
    rwa [ir om]at f2
  rw[ax]at hz;have hk:k<f.aR.length:=om;refine bz (f:=ep) (j:=k) rfl rfl hk rfl (uR ?_);refine aH (cV (200<f.aR[k].data.length∨(2000<f.aR[k].off∧f.aR[k].off≤1048576))) ?_ ?_
  · refine uR ?_;refine aP rfl (fun c1=> ?_) (fun c1=> ?_)
    · exact ae (cz (.inl om))
    refine uR ?_;refine aP rfl (fun c2=> ?_) (fun c2=> ?_)
    · refine uR ?_;refine ae (fG ?_);omega
    · exact ae (fl om)
  rintro _ ⟨u,rfl,hu⟩;refine nW ?_;refine bg (fun hy=> ?_) (fun hy=> ?_)
  · exact ae ⟨false,rfl,fun h=>by cases h⟩
  have hnu:¬(200<f.aR[k].data.length∨(2000<f.aR[k].off∧f.aR[k].off≤1048576)):=fun h=>by have hy:u=false:=hy;rw[hu.2 h]at hy;cases hy
  refine bP (i:=k) rfl om (nW ?_);refine ae ⟨⟨k+1,rfl,om,fun w hw=> ?_⟩,?_⟩
  · rw[iQ hk]at hw;rcases ei.1 hw with hw|hw
    · exact f2 w hw
    · rw[eS.1 hw];omega
  · show f.aR.length- ((k+1:Nat):Int).toNat<f.aR.length-k;omega
 obtain⟨o,h1,t,rfl,h2⟩:=iS run;exact⟨t,h1,h2⟩
end
section
open Go.RowKit
namespace AI
def cw:List AC:=[.int .u8 0 255]
def tq:aO:=⟨2,1,{fs:=[⟨4,0,8⟩,⟨0,4,0⟩]},[{fs:=[⟨8,4,0⟩,⟨4,8,0⟩,⟨8,0,8⟩,⟨0,8,0⟩],rw:=[(2,some cw)]}]⟩
theorem ZU (n:Int):AC.rows cw [[.sc (.int .u8 (IntKind.wrap .u8 n))]]:=by
 intro r hr;rw[eS.1 hr];have:=GW .u8 n;exact⟨⟨_,rfl,this.1,this.2⟩,trivial⟩
theorem xV {cs:List AC} {a b:List (List PV)} (h1:AC.rows cs a) (h2:AC.rows cs b):AC.rows cs (a++b):=fun r hr=>by
 rcases ei.1 hr with h|h
 · exact h1 r h
 · exact h2 r h
theorem T9 (q:PV):bA 1 [[q]]=true:=rfl
theorem axY (l0 l1:L) (h0:0≤l1.af) (h8:l1.af≤8):∃o,ia [l0,l1]=some o∧∃rows,o=[.r rows]∧(rows.length:Int)=l1.af∧AC.rows cw rows:=by
 have hw:=wrap64 (n:=l1.af-1) om om;refine iS ?_;unfold aaK;simp only[Fo,dZ,ck,b_,cu,Nd.ev,bF,cr,dA,At.ev,d6,d7,d8,e0,d9,cD,cP,b8,bp,Kd.pv,bC,cj,d1,d2,d3,d4,d5,aJ,hw];refine wp_loop (I:=fun a=>∃(i:Int) (rows:List (List PV)),a=[.i i,.r rows]∧i=l1.af-1-rows.length∧(rows.length:Int)≤l1.af∧AC.rows cw rows) (mu:=fun a=>match a with|[.i i,_]=> (i+1).toNat|_=>0) ⟨l1.af-1,[],by simp only[Fo,dZ,ck,b_,cu,Nd.ev,bF,cr,dA,At.ev,d6,d7,d8,e0,d9,cD,cP,b8,bp,Kd.pv,bC,cj,d1,d2,d3,d4,d5,aJ],by simp,by simpa using h0,fun r hr=>by cases hr⟩ ?_;rintro a ⟨i,rows,rfl,e1,e2,e3⟩;by_cases hi:0≤i
 · have hm:=wrap64 (n:=8*i) om om;have hc:IntKind.wrap .u64 (8*i)=8*i:=r9 .u64 (by simp[IntKind.min,IntKind.signed];omega) (by simp[IntKind.max,IntKind.signed,IntKind.bits];omega);have hs:=wrap64 (n:=i-1) om om;have h8i:(0:Int)≤8*i:=om;have hR:bA 1 rows=true:=AC.vD (cs:=cw) e3;have eE:rows.length+1≤9223372036854775807:=om;have hl2:(rows.length+1)≤140737488355328:=om;simp[Fo,dZ,ck,b_,cu,Nd.ev,bF,cr,dA,At.ev,d6,d7,d8,e0,d9,cD,cP,b8,bp,Kd.pv,bC,cj,d1,d2,d3,d4,d5,aJ,hi,hm,hc,h8i,hR,eE,hl2,hs,T9];refine⟨⟨_,_,⟨rfl,rfl⟩,by simp only[dL,um];omega,by simp only[dL,um];omega,xV e3 (ZU _)⟩,om⟩
 · simp[Fo,dZ,ck,b_,cu,Nd.ev,bF,cr,dA,At.ev,d6,d7,d8,e0,d9,cD,cP,b8,bp,Kd.pv,bC,cj,d1,d2,d3,d4,d5,aJ,hi];exact⟨om,e3⟩
theorem jh:tq.ok ia:=by
 intro ls hl hp
 match ls,hl with
 | [l0,l1],_=>
  have a1:=hp.fs ⟨4,0,8⟩ (by simp[tq]);have a2:=hp.fs ⟨0,4,0⟩ (by simp[tq]);simp[Fa.holds,bH]at a1 a2;obtain⟨o,h1,rows,rfl,h2,h3⟩:=axY l0 l1 om om;refine⟨_,h1,rfl,_,eS.2 rfl,⟨fun f hf=> ?_,fun x hx=> ?_,fun x hx=> (by cases hx),fun x hx=> (by cases hx)⟩⟩
  · simp at hf;rcases hf with rfl|rfl|rfl|rfl<;>simp[Fa.holds,bH,mA]<;>omega
  · simp at hx;subst hx;exact h3
def se:aO:=⟨4,1,{fs:=[⟨2,0,2097152⟩,⟨0,2,0⟩,⟨4,0,1048576⟩,⟨0,4,0⟩,⟨8,0,1048576⟩,⟨0,8,0⟩],rw:=[(0,some cw),(2,some cw)]},[{fs:=[⟨14,0,2097152⟩,⟨0,14,0⟩],rw:=[(4,some cw)]}]⟩
theorem Ed {cs:List AC} {a:List (List PV)} (h:AC.rows cs a) (n:Nat):AC.rows cs (a.take n):=fun r hr=>h r (hU hr)
theorem awx {cs:List AC} {a:List (List PV)} (h:AC.rows cs a) (n:Nat):AC.rows cs (a.drop n):=fun r hr=>h r (oR hr)
theorem agl (l0 l1 l2 l3:L) (h0:l0.ah.length≤2097152) (h1:0≤l1.af) (RQ:l1.af≤1048576) (h2:l2.ah.length≤1048576) (r0:AC.rows cw l0.ah) (r2:AC.rows cw l2.ah):
   ∃o,sd [l0,l1,l2,l3]=some o∧∃rows,o=[.r rows]∧rows.length≤2097152∧AC.rows cw rows:=by
 have Iz:bA 1 l0.ah=true:=AC.vD (cs:=cw) r0;have ua:bA 1 l2.ah=true:=AC.vD (cs:=cw) r2;have hN:bA 1 []=true:=rfl;have a1:l0.ah.length≤9223372036854775807:=om;have a2:l0.ah.length≤140737488355328:=om;obtain⟨m,hm⟩:=Int.eq_ofNat_of_zero_le h1;rw[hm]at h1 RQ;refine iS ?_;unfold LL;by_cases hc:l3.br=true
 · have hh:=nT Iz;by_cases b1:m<l0.ah.length
   · have b2:m≤l0.ah.length:=om;simp[Fo,dZ,ck,b_,cu,Nd.ev,bF,cr,dA,At.ev,d6,d7,d8,e0,d9,cD,cP,b8,bp,Kd.pv,bC,cj,d1,d2,d3,d4,d5,aJ,hc,Iz,hN,a1,a2,hh,hm,b1,b2];exact⟨om,Ed r0 _⟩
   · simp[Fo,dZ,ck,b_,cu,Nd.ev,bF,cr,dA,At.ev,d6,d7,d8,e0,d9,cD,cP,b8,bp,Kd.pv,bC,cj,d1,d2,d3,d4,d5,aJ,hc,Iz,hN,a1,a2,hh,hm,b1];exact⟨om,r0⟩
 · simp[Fo,dZ,ck,b_,cu,Nd.ev,bF,cr,dA,At.ev,d6,d7,d8,e0,d9,cD,cP,b8,bp,Kd.pv,bC,cj,d1,d2,d3,d4,d5,aJ,hc,Iz,hN,a1,a2,hm];refine wp_loop (I:=fun a=>∃(rows:List (List PV)),a=[.r rows]∧rows.length≤2097152∧AC.rows cw rows) (mu:=fun a=>match a with|[.r rows]=>2097152-rows.length|_=>0) ⟨l0.ah,by simp only[Fo,dZ,ck,b_,cu,Nd.ev,bF,cr,dA,At.ev,d6,d7,d8,e0,d9,cD,cP,b8,bp,Kd.pv,bC,cj,d1,d2,d3,d4,d5,aJ],h0,r0⟩ ?_;rintro a ⟨rows,rfl,e1,e2⟩;have hR:bA 1 rows=true:=AC.vD (cs:=cw) e2;have hh:=nT hR;by_cases hi:rows.length<m
   · have eE:rows.length+1≤9223372036854775807:=om;have hl2:(rows.length+1)≤140737488355328:=om;simp[Fo,dZ,ck,b_,cu,Nd.ev,bF,cr,dA,At.ev,d6,d7,d8,e0,d9,cD,cP,b8,bp,Kd.pv,bC,cj,d1,d2,d3,d4,d5,aJ,hm,hi,hR,eE,hl2,T9];exact⟨⟨om,xV e2 (ZU 0)⟩,om⟩
   · have hw:=wrap64 (n:=(m:Int)+l2.ah.length) om om;have c2:m≤rows.length:=om;by_cases hj:(rows.length:Int)< (m:Int)+(l2.ah.length:Int)
     · have c3:bA 1 (rows.take m)=true:=AC.vD (Ed e2 _);have c4:m+l2.ah.length≤9223372036854775807:=om;have c5:m+l2.ah.length≤140737488355328:=om;simp[Fo,dZ,ck,b_,cu,Nd.ev,bF,cr,dA,At.ev,d6,d7,d8,e0,d9,cD,cP,b8,bp,Kd.pv,bC,cj,d1,d2,d3,d4,d5,aJ,hi,hw,hj,hh,hm,c2,c3,c4,c5,ua];exact⟨om,xV (Ed e2 _) r2⟩
     · have d2:((m:Int)+(l2.ah.length:Int)).toNat=m+l2.ah.length:=om;have d3:m+l2.ah.length≤rows.length:=om;have d1:(m:Int)≤(m:Int)+(l2.ah.length:Int):=om;have d4:(0:Int)≤(m:Int)+(l2.ah.length:Int):=om;simp[Fo,dZ,ck,b_,cu,Nd.ev,bF,cr,dA,At.ev,d6,d7,d8,e0,d9,cD,cP,b8,bp,Kd.pv,bC,cj,d1,d2,d3,d4,d5,aJ,hi,hw,hj,hh,hm,d1,d2,d3,d4,ua];exact⟨om,xV (Ed e2 _) (xV r2 (awx e2 _))⟩
theorem apz:se.ok sd:=by
 intro ls hl hp
 match ls,hl with
 | [l0,l1,l2,l3],_=>
  have a1:=hp.fs ⟨2,0,2097152⟩ (by simp[se]);have a2:=hp.fs ⟨4,0,1048576⟩ (by simp[se]);have a3:=hp.fs ⟨0,4,0⟩ (by simp[se]);have a4:=hp.fs ⟨8,0,1048576⟩ (by simp[se]);have b1:=hp.rw (0,some cw) (by simp[se]);have b2:=hp.rw (2,some cw) (by simp[se]);simp[Fa.holds,bH]at a1 a2 a3 a4;obtain⟨o,h1,rows,rfl,h2,h3⟩:=agl l0 l1 l2 l3 om om om om b1 b2;refine⟨_,h1,rfl,_,eS.2 rfl,⟨fun f hf=> ?_,fun x hx=> ?_,fun x hx=> (by cases hx),fun x hx=> (by cases hx)⟩⟩
  · simp at hf;rcases hf with rfl|rfl<;>simp[Fa.holds,bH,mA]<;>omega
  · simp at hx;subst hx;exact h3
end AI
namespace AI
def qY:List AC:=[.int .i64 (-9223372036854775808) 9223372036854775807,.sl 4194304 cw,.bool]
def GR:List AC:=[.int .i64 0 1048576,.sl 1048576 cw,.bool]
def sL:aO:=⟨3,1,{fs:=[⟨3,0,9⟩,⟨5,0,4194304⟩,⟨8,0,1099511627776⟩],rw:=[(1,some cw),(2,some qY)]},[{bs:=[(3,true)],fs:=[⟨5,0,1048576⟩],rw:=[(2,some GR)]},{bs:=[(3,false)]}]⟩
theorem YI {α:Type}:∀{r:List α},r.length=3→∃a b c,r=[a,b,c]
 |[a,b,c],_=> ⟨a,b,c,rfl⟩
theorem avJ (l0 l1 l2:L) (wH:∃v,qk [l0]=some [v]) (h1:l1.ah.length≤4194304) (h2:l2.ah.length≤1099511627776) (r1:AC.rows cw l1.ah) (r2:AC.rows qY l2.ah):
   ∃o,sU [l0,l1,l2]=some o∧∃b,o=[.b b]∧(b=true→l1.ah.length≤1048576∧AC.rows GR l2.ah):=by
 obtain⟨v,wH⟩:=wH;refine iS ?_;unfold PQ;by_cases hv:v.br=true;rotate_left
 · simp[Fo,dZ,ck,b_,cu,Nd.ev,bF,cr,dA,At.ev,d6,d7,d8,e0,d9,cD,cP,b8,bp,Kd.pv,bC,cj,d1,d2,d3,d4,d5,aJ,wH,hv]
 by_cases hl:(1048576:Int)<l1.ah.length
 · simp[Fo,dZ,ck,b_,cu,Nd.ev,bF,cr,dA,At.ev,d6,d7,d8,e0,d9,cD,cP,b8,bp,Kd.pv,bC,cj,d1,d2,d3,d4,d5,aJ,wH,hv,hl]
 have hl':¬1048576<l1.ah.length:=om;simp[Fo,dZ,ck,b_,cu,Nd.ev,bF,cr,dA,At.ev,d6,d7,d8,e0,d9,cD,cP,b8,bp,Kd.pv,bC,cj,d1,d2,d3,d4,d5,aJ,wH,hv,hl];refine wp_loop (I:=fun a=>∃(l:L) (i:Nat),a=[l,.i i]∧i≤l2.ah.length∧l.ah.length≤1048576∧AC.rows cw l.ah∧∀j r,j<i→l2.ah[j]? =some r→AC.dp GR r) (mu:=fun a=>match a with|[_,.i i]=>l2.ah.length-i.toNat|_=>0) (by exact⟨l1,0,rfl,om,om,r1,fun j r hj=>by omega⟩) ?_;rintro a ⟨l,i,rfl,e1,e2,e3,e4⟩;by_cases hi:i<l2.ah.length;rotate_left
 · simp[Fo,dZ,ck,b_,cu,Nd.ev,bF,cr,dA,At.ev,d6,d7,d8,e0,d9,cD,cP,b8,bp,Kd.pv,bC,cj,d1,d2,d3,d4,d5,aJ,hi];refine⟨om,fun r hr=> ?_⟩;obtain⟨j,hj,rfl⟩:=lQ hr;exact e4 j _ om (bX hj)
 have hg:l2.ah[i]? =some l2.ah[i]:=bX hi;have hr:=r2 _ (cH hg);generalize l2.ah[i]=r at hg hr;obtain⟨q0,q1,q2,rfl⟩:=YI (AC.uJ hr);obtain⟨⟨off,rfl,o1,o2⟩,⟨data,rfl,d1,d2⟩,⟨cut,rfl⟩,_⟩:=hr;have hg':l2.ah[i]=_:=p9 ((bX hi).symm.trans hg)
 · skip
   by_cases c1:off<0
   · simp[Fo,dZ,ck,b_,cu,Nd.ev,bF,cr,dA,At.ev,d6,d7,d8,e0,d9,cD,cP,b8,bp,Kd.pv,bC,cj,d1,d2,d3,d4,d5,aJ,hi,hg',Kd.of,c1]
   by_cases c2:1048576<off
   · simp[Fo,dZ,ck,b_,cu,Nd.ev,bF,cr,dA,At.ev,d6,d7,d8,e0,d9,cD,cP,b8,bp,Kd.pv,bC,cj,d1,d2,d3,d4,d5,aJ,hi,hg',Kd.of,c1,c2]
   have good:data.length≤1048576→∃l':L,sd [l,.i off,.r data,.b cut]=some [l']∧l'.ah.length≤2097152∧AC.rows cw l'.ah:=fun hd=>by
     obtain⟨o,k1,rows,rfl,k2,k3⟩:=agl l (.i off) (.r data) (.b cut) om (by simp only[oY];omega) (by simp only[oY];omega) (by simp only[mA];omega) e3 d2;exact⟨_,k1,k2,k3⟩
   have w:IntKind.wrap .i64 ((i:Int)+1)=(i:Int)+1:=wrap64 om om;have e4':data.length≤1048576→∀j r,j<i+1→l2.ah[j]? =some r→AC.dp GR r:=fun hd j r hj hr=>by
     by_cases wh:j=i
     · subst wh;rw[hg]at hr;cases hr;exact⟨⟨off,rfl,om,om⟩,⟨data,rfl,om,d2⟩,⟨cut,rfl⟩,trivial⟩
     · exact e4 j r om hr
   cases cut with
   | true=>
     by_cases c3:0<data.length
     · simp[Fo,dZ,ck,b_,cu,Nd.ev,bF,cr,dA,At.ev,d6,d7,d8,e0,d9,cD,cP,b8,bp,Kd.pv,bC,cj,d1,d2,d3,d4,d5,aJ,hi,hg',Kd.of,c1,c2,c3]
     have c4:¬(1048576:Int)<data.length:=om;obtain⟨l',k1,k2,k3⟩:=good om;by_cases c5:(1048576:Int)<l'.ah.length
     · simp[Fo,dZ,ck,b_,cu,Nd.ev,bF,cr,dA,At.ev,d6,d7,d8,e0,d9,cD,cP,b8,bp,Kd.pv,bC,cj,d1,d2,d3,d4,d5,aJ,hi,hg',Kd.of,c1,c2,c3,c4,k1,c5]
     · have e5:=e4' om;simp[Fo,dZ,ck,b_,cu,Nd.ev,bF,cr,dA,At.ev,d6,d7,d8,e0,d9,cD,cP,b8,bp,Kd.pv,bC,cj,d1,d2,d3,d4,d5,aJ,hi,hg',Kd.of,c1,c2,c3,c4,k1,c5,w];exact⟨⟨l',i+1,⟨rfl,om⟩,om,om,k3,e5⟩,om⟩
   | false=>
     by_cases c4:(1048576:Int)<data.length
     · simp[Fo,dZ,ck,b_,cu,Nd.ev,bF,cr,dA,At.ev,d6,d7,d8,e0,d9,cD,cP,b8,bp,Kd.pv,bC,cj,d1,d2,d3,d4,d5,aJ,hi,hg',Kd.of,c1,c2,c4]
     obtain⟨l',k1,k2,k3⟩:=good om;by_cases c5:(1048576:Int)<l'.ah.length
     · simp[Fo,dZ,ck,b_,cu,Nd.ev,bF,cr,dA,At.ev,d6,d7,d8,e0,d9,cD,cP,b8,bp,Kd.pv,bC,cj,d1,d2,d3,d4,d5,aJ,hi,hg',Kd.of,c1,c2,c4,k1,c5]
     · have e5:=e4' om;simp[Fo,dZ,ck,b_,cu,Nd.ev,bF,cr,dA,At.ev,d6,d7,d8,e0,d9,cD,cP,b8,bp,Kd.pv,bC,cj,d1,d2,d3,d4,d5,aJ,hi,hg',Kd.of,c1,c2,c4,k1,c5,w];exact⟨⟨l',i+1,⟨rfl,om⟩,om,om,k3,e5⟩,om⟩
end AI
def Uf (r:List PV):Bool:=match r with
 |[.sc (.int .u8 n)]=>decide (0≤n)&&decide (n≤255)
 |_=>false
theorem auk {rows:List (List PV)} (h:rows.all Uf=true):AI.AC.rows AI.cw rows:=fun r hr=>by
 have:=bk.1 h r hr;unfold Uf at this;split at this
 · rename_i n;simp only[bt,cg]at this;exact⟨⟨n,rfl,this.1,this.2⟩,trivial⟩
 · cases this
namespace AI
def aee:aO:=⟨0,3,{},[{fs:=[⟨1,0,6⟩,⟨0,1,-6⟩,⟨4,0,4⟩,⟨0,4,-4⟩,⟨8,0,24⟩,⟨0,8,-24⟩],rw:=[(2,some cw)]}]⟩
theorem aEX:aee.ok vW:=by
 intro ls hl hp;obtain rfl:=iq hl;have h1:=KT;have h3:=auk (rows:=iE.map b1) kr;have h4:(iE.map b1).length=24:=kr;refine⟨_,h1,rfl,_,eS.2 rfl,⟨fun f hf=> ?_,fun x hx=> ?_,fun x hx=> (by cases hx),fun x hx=> (by cases hx)⟩⟩
 · simp at hf;rcases hf with rfl|rfl|rfl|rfl|rfl|rfl<;>simp[Fa.holds,bH,mA,oY,h4]
 · simp at hx;subst hx;exact h3
end AI
namespace AI
theorem agS {r:List PV} (h:AC.dp cw r):∃n:Int,r=[.sc (.int .u8 n)]∧0≤n∧n≤255:=by
 match r,h with
 |[q],⟨⟨n,h1,h2,h3⟩,_⟩=>exact⟨n,by rw[h1],h2,h3⟩
theorem WM:∀{rows:List (List PV)},AC.rows cw rows→∃b:List Int,rows=fT b∧∀n∈b,0≤n∧n≤255
 |[],_=> ⟨[],rfl,fun n hn=>by cases hn⟩
 |r::rows,h=>by
  obtain⟨n,rfl,h1,h2⟩:=agS (h r ek);obtain⟨b,rfl,h3⟩:=WM (rows:=rows) fun r hr=>h r (fb _ hr)
  refine⟨n::b,rfl,fun m hm=> ?_⟩;rcases cU.1 hm with rfl|hm
  · exact⟨h1,h2⟩
  · exact h3 m hm
theorem amy {b:List Int} (h:∀n∈b,0≤n∧n≤255):AC.rows cw (fT b):=fun r hr=>by
 simp only[fT,dy]at hr;obtain⟨n,hn,rfl⟩:=hr;exact⟨⟨n,rfl,(h n hn).1,(h n hn).2⟩,trivial⟩
def Dl:aO:=⟨1,1,{fs:=[⟨2,0,1048576⟩,⟨0,2,0⟩],rw:=[(0,some cw)]},[{fs:=[⟨5,0,4⟩,⟨0,5,-4⟩],rw:=[(1,some [.sl 262208 cw])],pr:=[(0,[1])]}]⟩
theorem amB:Dl.ok uL:=by
 intro ls hl hp
 match ls,hl with
 | [l],_=>
  have a1:=hp.fs ⟨2,0,1048576⟩ (by simp[Dl]);have b1:=hp.rw (0,some cw) (by simp[Dl]);simp[Fa.holds,bH]at a1;obtain⟨b,hb,hr⟩:=WM (rows:=l.ah) b1;have hlen:b.length≤1048576:=by rw[hb,Cw]at a1;omega
  have hF:uL [l]=some [.r (Sp.pk b)]:=by
    simp only[uL,hb,Xa,au hlen]
  have hs:∀r∈Sp.pk b,∃q,r=[.sl q]∧q.length=Sp.dH b.length∧AC.rows cw q:=fun r gC=>by
    simp only[Sp.pk,dy]at gC;obtain⟨i,_,rfl⟩:=gC;refine⟨_,rfl,by simp[Cw],amy fun n hn=> ?_⟩;obtain⟨j,_,rfl⟩:=dy.1 hn;have key:∀t:Nat,0≤(b[t]?).getD 0∧(b[t]?).getD 0≤255:=fun t=>by
      cases ht:b[t]? with
      |none=>simp
      |some n=>exact hr n (cH ht)
    simp only[Sp.fill];split
    · exact key _
    · omega
  refine⟨_,hF,rfl,_,eS.2 rfl,⟨fun f hf=> ?_,fun x hx=> ?_,fun x hx=> (by cases hx),fun x hx=> ?_⟩⟩
  · simp at hf;rcases hf with rfl|rfl<;>simp[Fa.holds,bH,mA,Sp.pk]
  · simp at hx;subst hx;intro r gC;obtain⟨q,rfl,h1,h2⟩:=hs r gC;refine⟨⟨q,rfl,?_,h2⟩,trivial⟩;rw[h1];unfold Sp.dH;omega
  · simp at hx;subst hx;refine⟨Sp.dH b.length,fun r gC=> ?_⟩;obtain⟨q,h1,h2,_⟩:=hs r gC;exact⟨q,h1,h2⟩
def xK:aO:=⟨2,1,{fs:=[⟨2,4,0⟩,⟨4,2,0⟩,⟨4,0,16⟩],pr:=[(0,[0])]},[{bs:=[(2,true)]}]⟩
theorem ajO (l0 l1:L) (n:Nat) (hp:∀r∈l0.ah,∃q,r=[.sl q]∧q.length=n) (h1:(l0.ah.length:Int)=l1.af) (h2:l1.af≤16):∃o,Ep [l0,l1]=some o∧o=[.b true]:=by
 refine iS ?_;unfold aaQ;simp[Fo,dZ,ck,b_,cu,Nd.ev,bF,cr,dA,At.ev,d6,d7,d8,e0,d9,cD,cP,b8,bp,Kd.pv,bC,cj,d1,d2,d3,d4,d5,aJ,h1];refine wp_loop (I:=fun a=>∃i:Nat,a=[.i i]∧i≤l0.ah.length) (mu:=fun a=>match a with|[.i i]=>l0.ah.length-i.toNat|_=>0) (by exact⟨0,rfl,om⟩) ?_;rintro a ⟨i,rfl,e1⟩;by_cases hi:(i:Int)<l1.af
 · have hi':i<l0.ah.length:=om;have oC:0<l0.ah.length:=om;obtain⟨q,q1,q2⟩:=hp _ (b9 hi');obtain⟨p,p1,p2⟩:=hp _ (b9 oC);have w:IntKind.wrap .i64 ((i:Int)+1)=(i:Int)+1:=wrap64 om om;simp[Fo,dZ,ck,b_,cu,Nd.ev,bF,cr,dA,At.ev,d6,d7,d8,e0,d9,cD,cP,b8,bp,Kd.pv,bC,cj,d1,d2,d3,d4,d5,aJ,hi,hi',oC,q1,p1,Kd.of,q2,p2,w];exact⟨⟨i+1,om,om⟩,om⟩
 · simp[Fo,dZ,ck,b_,cu,Nd.ev,bF,cr,dA,At.ev,d6,d7,d8,e0,d9,cD,cP,b8,bp,Kd.pv,bC,cj,d1,d2,d3,d4,d5,aJ,hi]
theorem aEi:xK.ok Ep:=by
 intro ls hl hp
 match ls,hl with
 |[l0,l1],_=>
  have a1:=hp.fs ⟨2,4,0⟩ (by simp[xK]);have a2:=hp.fs ⟨4,2,0⟩ (by simp[xK]);have a3:=hp.fs ⟨4,0,16⟩ (by simp[xK]);obtain⟨n,b1⟩:=hp.pr (0,[0]) (by simp[xK]);simp[Fa.holds,bH]at a1 a2 a3;obtain⟨o,h1,rfl⟩:=ajO l0 l1 n b1 om om;refine⟨_,h1,rfl,_,eS.2 rfl,⟨fun f hf=> (by cases hf),fun x hx=> (by cases hx),fun x hx=> ?_,fun x hx=> (by cases hx)⟩⟩;simp at hx;subst hx;rfl
end AI
namespace AI
def adu:aO:=⟨2,1,⟨[],[],[],[]⟩,[⟨[],[],[],[]⟩]⟩
def aoL:bw:= .b (.l ⟨[],[⟨[f 0 10 0],[],[],[]⟩],10,true,0,7⟩ (.e)) (.b (.l ⟨[],[⟨[f 13 0 14],[],[],[]⟩],13,false,0,8⟩ (.e)) (.e))
theorem avQ:adu.ok my:=bV [] [] aoL kr kr trivial
def FJ:aO:=⟨3,2,⟨[⟨5,0,262208⟩,⟨0,5,0⟩],[(0,some [.int .u8 0 255]),(1,some [.int .u8 0 255])],[],[]⟩,[⟨[⟨10,0,1⟩,⟨0,10,-1⟩,⟨14,0,0⟩,⟨0,14,0⟩],[(4,none)],[],[]⟩,⟨[⟨10,0,0⟩,⟨0,10,0⟩,⟨14,0,262208⟩,⟨0,14,0⟩,⟨14,2,0⟩,⟨14,5,0⟩,⟨2,5,0⟩,⟨5,2,0⟩],[(4,some [.int .u8 0 255])],[],[]⟩]⟩
def aoH:bw:= .b (.e) (.b (.l ⟨[],[⟨[f 0 23 0,f 23 13 0,f 23 19 0],[(7,some [.int .u8 0 255])],[],[]⟩],19,true,0,262207⟩ (.e)) (.e))
theorem arU:FJ.ok uF:=bV [(19,adu)] [(19,my)] aoH kr kr ⟨aC rfl avQ,trivial⟩
def abh:aO:=⟨6,1,⟨[f 8 0 256,f 0 8 0,f 12 0 9],[(2,some c1),(4,none),(5,none)],[],[]⟩,[⟨[f 0 20 (-1),f 20 8 1],[(6,some c1)],[],[]⟩]⟩
def ajD:bw:= .b (.l ⟨[0],[⟨[f 0 26 0,f 26 8 0,f 26 22 0],[(8,some c1)],[(6,false)],[]⟩,⟨[f 0 26 (-1),f 26 8 1,f 26 22 1],[(8,some c1)],[(6,true)],[]⟩],22,true,0,255⟩ (.b (.j [0] [⟨[f 0 38 (-1),f 38 22 2],[(12,some c1)],[(11,true)],[]⟩,⟨[f 0 38 0,f 38 22 1],[(12,some c1)],[(11,false)],[]⟩] (.e) (.e)) (.e))) (.e)
theorem arB:abh.ok F30:=bV [] [] ajD kr kr trivial
def O8:aO:=⟨4,1,⟨[f 8 0 256],[(2,some c5)],[],[]⟩,[⟨[f 13 8 (-1)],[],[],[]⟩,⟨[f 13 0 (-1)],[],[],[]⟩]⟩
def aAN:bw:= .b (.l ⟨[],[⟨[f 0 13 0],[],[],[]⟩],13,true,0,255⟩ (.e)) (.e)
theorem aaT:O8.ok sq:=bV [] [] aAN kr kr trivial
def Dx:aO:=⟨1,1,⟨[⟨3,0,9⟩],[],[],[]⟩,[⟨[],[],[(1,false)],[]⟩,⟨[⟨0,3,-1⟩],[],[(1,true)],[]⟩]⟩
def auF:bw:= .b (.l ⟨[],[⟨[f 0 4 0],[],[],[]⟩],4,true,0,8⟩ (.b (.j [] [⟨[],[],[],[]⟩] (.e) (.e)) (.e))) (.e)
def awi:Nat→Option aO:=fW []
theorem aur:fD awi I3 auF Dx [0]=true:=kr
theorem Zb:Dx.ok qk:=gu aur (gi (cs:=[]) kr trivial)
def Za:aO:=⟨1,1,⟨[f 1 0 0],[],[],[]⟩,[⟨[f 4 0 0,f 0 4 0],[],[],[]⟩]⟩
def arO:bw:= .e
theorem atS:Za.ok D7:=bV (x:=xF TT [] ((Tryz.prog.funcs[DR.f]?).getD default) DR.cE DR.params DR.H) [] [] arO kr kr trivial
def Yb:aO:=⟨1,1,⟨[f 1 0 4294967295,f 0 1 0],[],[],[]⟩,[⟨[],[],[],[]⟩]⟩
def avf:bw:= .b (.l ⟨[],[⟨[f 4 0 4294967295,f 0 4 0,f 0 7 0],[],[],[]⟩],7,true,0,7⟩ (.e)) (.e)
theorem axy:Yb.ok BJ:=bV [] [] avf kr kr trivial
def abY:aO:=⟨2,1,⟨[f 5 0 262208],[(1,some [.int .u8 0 255])],[],[]⟩,[⟨[f 7 0 4294967295,f 0 7 0],[],[],[]⟩]⟩
def azO:bw:= .b (.l ⟨[],[⟨[f 0 13 0],[],[],[]⟩],13,true,0,262207⟩ (.e)) (.e)
theorem azT:abY.ok Cm:=bV [(36,Yb)] [(36,BJ)] azO kr kr ⟨aC rfl axy,trivial⟩
def QB:aO:=⟨1,1,⟨[f 2 0 262208],[(0,some [.int .u8 0 255])],[],[]⟩,[⟨[f 4 0 4294967295,f 0 4 0],[],[],[]⟩]⟩
def aAh:bw:= .e
theorem Ym:QB.ok yA:=bV [(37,abY)] [(37,Cm)] aAh kr kr ⟨aC rfl azT,trivial⟩
def BY:aO:=⟨3,1,⟨[],[],[],[]⟩,[⟨[f 7 0 4294967295,f 0 7 0,f 4 0 8,f 0 4 (-1),f 1 0 3,f 0 1 0],[],[(3,true)],[]⟩,⟨[],[],[(3,false)],[]⟩]⟩
def ayQ:bw:= .e
def auR:Nat→Option aO:=fW []
theorem apJ:fD auR OO ayQ BY [0]=true:=kr
theorem Jg:BY.ok tu:=gu apJ (gi (cs:=[]) kr trivial)
def Tv:aO:=⟨1,1,⟨[f 2 0 4],[(0,some [.int .u8 0 255])],[],[]⟩,[⟨[],[],[],[]⟩]⟩
def axQ:bw:= .b (.l ⟨[],[⟨[f 0 7 0],[],[],[]⟩],7,true,0,3⟩ (.e)) (.e)
theorem KE:Tv.ok F40:=bV [] [] axQ kr kr trivial
def uy:aO:=⟨1,1,⟨[f 2 0 240],[(0,some [.int .u8 0 255])],[],[]⟩,[⟨[f 5 0 4,f 0 5 (-4)],[(1,some [.int .u8 0 255])],[],[]⟩]⟩
def aEt:bw:= .e
theorem xn:uy.ok ni:=bV [(38,QB)] [(38,yA)] aEt kr kr ⟨aC rfl Ym,trivial⟩
def Ee:aO:=⟨4,1,⟨[],[(3,some [.int .u8 0 255])],[],[]⟩,[⟨[],[],[(4,true)],[]⟩,⟨[],[],[(4,false)],[]⟩]⟩
def alb:bw:= .e
def aBj:Nat→Option aO:=fW []
theorem aAb:fD aBj aKu alb Ee [0]=true:=kr
theorem VV:Ee.ok OQ:=gu aAb (gi (cs:=[]) kr trivial)
def oW:aO:=⟨1,1,⟨[f 1 0 4096,f 0 1 0],[],[],[]⟩,[⟨[f 4 0 4120],[],[],[]⟩]⟩
def avZ:bw:= .e
theorem mD:oW.ok ib:=bV [] [] avZ kr kr trivial
def P4:aO:=⟨2,5,⟨[f 2 0 8,f 0 2 0],[(0,some c4)],[],[]⟩,[⟨[f 13 0 3,f 0 13 0,f 19 0 30,f 0 19 0],[],[(2,true)],[]⟩,⟨[f 13 0 0,f 0 13 0,f 19 0 0,f 0 19 0],[],[(2,false)],[]⟩]⟩
def asM:bw:= .b (.l ⟨[],[⟨[f 13 10 0],[],[],[]⟩],13,false,0,0⟩ (.e)) (.e)
def azV:Nat→Option aO:=fW []
theorem aDU:fD azV aKv asM P4 [0]=true:=kr
theorem aBk:P4.ok UE:=gu aDU (gi (cs:=[]) kr trivial)
def Bs:aO:=⟨4,1,⟨[],[],[],[]⟩,[⟨[f 0 10 0,f 7 0 1048576,f 0 7 (-16)],[],[(4,true)],[]⟩,⟨[],[],[(4,false)],[]⟩]⟩
def auy:bw:= .e
def aCK:Nat→Option aO:=fW []
theorem alr:fD aCK Kl auy Bs [0]=true:=kr
theorem Mx:Bs.ok u9:=gu alr (gi (cs:=[]) kr trivial)
def Gm:aO:=⟨1,1,⟨[f 2 0 8],[(0,some c4)],[],[]⟩,[⟨[],[],[],[]⟩]⟩
def auw:bw:= .b (.l ⟨[],[⟨[f 0 4 0],[],[],[]⟩],4,true,0,7⟩ (.e)) (.e)
theorem QQ:Gm.ok rl:=bV [(47,Bs)] [(47,u9)] auw kr kr ⟨aC rfl Mx,trivial⟩
def Me:aO:=⟨1,1,⟨[f 2 0 8],[(0,some c4)],[],[]⟩,[⟨[f 4 0 mx,f 0 4 18446744073709551615],[],[],[]⟩]⟩
def azB:bw:= .b (.l ⟨[],[⟨[f 4 0 mx,f 0 4 18446744073709551615,f 0 7 0],[],[],[]⟩],7,true,0,7⟩ (.e)) (.e)
theorem acn:Me.ok Nf:=bV [(44,oW)] [(44,ib)] azB kr kr ⟨aC rfl mD,trivial⟩
def JX:aO:=⟨1,1,⟨[],[],[],[]⟩,[⟨[f 4 0 7,f 0 4 0],[],[],[]⟩]⟩
def avz:bw:= .e
theorem V6:JX.ok OX:=bV (x:=xF TT [] ((Tryz.prog.funcs[HP.f]?).getD default) HP.cE HP.params HP.H) [] [] avz kr kr trivial
def xM:aO:=⟨10,1,⟨[f 2 0 8,f 5 0 8,f 8 0 8,f 11 0 8,f 14 0 8,f 17 0 8,f 20 0 8,f 23 0 8],(g 0 8 c4),[],[]⟩,[⟨[],[],[(10,false)],[]⟩,⟨[f 28 0 1099511627776],[],[(10,true)],[]⟩]⟩
def aCY:bw:= .b (.l ⟨[],[⟨[f 0 34 0],[],[],[]⟩],34,true,0,7⟩ (.b (.b (.e) (.b (.l ⟨[],[⟨[f 0 49 0],[],[],[]⟩],49,true,0,7⟩ (.e)) (.e))) (.e))) (.e)
def apV:Nat→Option aO:=fW [(48,Gm),(50,JX),(49,Me)]
theorem asy:fD apV aKw aCY xM [0]=true:=kr
theorem Dp:xM.ok Bj:=gu asy (gi (cs:=[(48,rl),(50,OX),(49,Nf)]) kr ⟨aC rfl QQ,aC rfl V6,aC rfl acn,trivial⟩)
def WJ:aO:=⟨1,1,⟨[],[],[],[]⟩,[⟨[f 6 0 1,f 0 6 (-1)],[],[],[]⟩]⟩
def aBR:bw:= .e
theorem OA:WJ.ok nk:=bV [] [] aBR kr kr trivial
def PR:aO:=⟨5,1,⟨[],[],[(4,false)],[]⟩,[⟨[],[],[(5,false)],[]⟩,⟨[],[],[(5,true)],[]⟩]⟩
def ayR:bw:= .e
def asW:Nat→Option aO:=fW []
theorem aqR:fD asW K5 ayR PR [0]=true:=kr
theorem aqU:PR.ok yd:=gu aqR (gi (cs:=[]) kr trivial)
def Qj:aO:=⟨5,2,⟨[f 1 0 5,f 0 1 (-1)],[],[(4,false)],[]⟩,[⟨[f 18 0 9,f 0 18 0],[],[],[]⟩]⟩
def ayU:bw:= .e
theorem YX:Qj.ok ql:=bV [(54,PR),(53,WJ)] [(54,yd),(53,nk),(53,nk),(53,nk)] ayU kr kr ⟨aC rfl aqU,aC rfl OA,aC rfl OA,aC rfl OA,trivial⟩
def xf:aO:=⟨3,1,⟨[f 1 0 4,f 0 1 (-1)],[],[],[]⟩,[⟨[f 12 0 9,f 0 12 0],[],[],[]⟩]⟩
def aEG:bw:= .e
theorem yw:xf.ok oq:=bV [(55,Qj)] [(55,ql)] aEG kr kr ⟨aC rfl YX,trivial⟩
def KH:aO:=⟨1,4,⟨[f 0 1 (-1)],[],[],[]⟩,[⟨[f 7 0 0,f 0 7 0,f 10 0 0,f 0 10 0,f 13 0 0,f 0 13 0,f 0 1 (-9)],[],[],[]⟩,⟨[f 0 7 (-1),f 10 0 1,f 0 10 (-1),f 13 0 16,f 0 13 (-16),f 7 1 0,f 1 0 8],[],[],[]⟩]⟩
def aEF:bw:= .e
theorem agc:KH.ok M9:=bV [] [] aEF kr kr trivial
def VI:aO:=⟨2,1,⟨[f 2 0 8],[(0,some c4)],[],[]⟩,[⟨[],[],[],[]⟩]⟩
def aom:bw:= .b (.l ⟨[],[⟨[f 0 7 0],[],[],[]⟩],7,true,0,7⟩ (.b (.b (.b (.e) (.l ⟨[],[⟨[f 0 37 0],[],[],[]⟩],37,true,0,7⟩ (.e))) (.e)) (.e))) (.e)
theorem akj:VI.ok F58:=bV [(44,oW)] [(44,ib)] aom kr kr ⟨aC rfl mD,trivial⟩
def Hi:aO:=⟨11,1,⟨[f 32 0 8],[(10,some c4)],[],[]⟩,[⟨[],[],[(11,false)],[]⟩,⟨[f 10 0 524288,f 0 10 (-16),f 0 4 (-1)],[],[(11,true)],[]⟩]⟩
def aCV:bw:= .j [0] [⟨[],[],[(11,true)],[]⟩,⟨[f 10 0 524288,f 0 10 (-16),f 0 4 (-1)],[],[(11,false)],[]⟩] (.e) (.b (.e) (.b (.l ⟨[],[⟨[f 0 37 0],[],[],[]⟩],37,true,0,7⟩ (.e)) (.e)))
def alx:Nat→Option aO:=fW [(39,BY),(48,Gm),(44,oW)]
theorem aGa:fD alx QW aCV Hi [0]=true:=kr
theorem afX:Hi.ok vv:=gu aGa (gi (cs:=[(39,tu),(48,rl),(44,ib)]) kr ⟨aC rfl Jg,aC rfl QQ,aC rfl mD,trivial⟩)
def aeR:aO:=⟨3,1,⟨[],[],[],[]⟩,[⟨[f 12 0 9,f 0 12 0],[],[],[]⟩]⟩
def alk:bw:= .e
theorem aCo:aeR.ok xX:=bV [(55,Qj)] [(55,ql)] alk kr kr ⟨aC rfl YX,trivial⟩
def agp:aO:=⟨1,4,⟨[],[(0,some [.int .u8 0 255])],[],[]⟩,[⟨[f 7 0 3,f 0 7 0,f 10 0 8,f 13 0 4294967295,f 0 13 0],[],[],[]⟩]⟩
def aEK:bw:= .e
theorem aDL:agp.ok F72:=bV [(41,uy),(40,Tv),(39,BY)] [(41,ni),(40,F40),(40,F40),(40,F40),(39,tu)] aEK kr kr ⟨aC rfl xn,aC rfl KE,aC rfl KE,aC rfl KE,aC rfl Jg,trivial⟩
def WZ:aO:=⟨11,1,⟨[f 2 0 8,f 5 0 8,f 8 0 8,f 11 0 8,f 14 0 8,f 17 0 8,f 20 0 8,f 23 0 8,f 28 0 2199023255552,f 0 28 0],(g 0 8 c4),[],[]⟩,[⟨[f 34 0 2199023255552,f 0 34 0],[],[],[]⟩]⟩
def aBe:bw:= .e
theorem aCd:WZ.ok F78:=bV [(52,xM)] [(52,Bj)] aBe kr kr ⟨aC rfl Dp,trivial⟩
def Qn:aO:=⟨3,2,⟨[f 4 0 (-1),f 0 4 1,f 8 0 256,f 0 8 0],[(2,some c1)],[],[]⟩,[⟨[f 10 0 (-1),f 0 10 1,f 0 14 0,f 14 8 0],[(4,some c1)],[],[]⟩]⟩
def aye:bw:= .e
def avD:Nat→Option aO:=fW []
theorem alW:fD avD sS aye Qn []=true:=kr
theorem auo:Qn.ok lA:=gu alW (gi (cs:=[]) kr trivial)
def N1:aO:=⟨3,2,⟨[f 4 0 (-1),f 0 4 1,f 8 0 256,f 0 8 (-1)],[(2,some c1)],[],[]⟩,[⟨[f 10 0 (-1),f 0 10 1,f 14 0 256,f 8 14 0],[(4,some c1)],[],[]⟩]⟩
def atM:bw:= .e
def aEm:Nat→Option aO:=fW []
theorem akG:fD aEm sS atM N1 []=true:=kr
theorem aEl:N1.ok lA:=gu akG (gi (cs:=[]) kr trivial)
def Qt:aO:=⟨3,2,⟨[f 4 0 (-1),f 0 4 1,f 8 0 256,f 0 8 (-1)],[(2,some c5)],[],[]⟩,[⟨[f 10 0 (-1),f 0 10 1,f 14 8 0,f 8 14 0],[(4,some c5)],[],[]⟩]⟩
def aky:bw:= .e
def amV:Nat→Option aO:=fW []
theorem ajZ:fD amV sS aky Qt []=true:=kr
theorem aEn:Qt.ok lA:=gu ajZ (gi (cs:=[]) kr trivial)
def Q1:aO:=⟨3,2,⟨[f 4 0 (-1),f 0 4 1,f 8 0 256,f 0 8 (-1)],[(2,some c1)],[],[]⟩,[⟨[f 10 0 (-1),f 0 10 1,f 14 8 0,f 8 14 0],[(4,some c1)],[],[]⟩]⟩
def akm:bw:= .e
def aFW:Nat→Option aO:=fW []
theorem awz:fD aFW sS akm Q1 []=true:=kr
theorem awr:Q1.ok lA:=gu awz (gi (cs:=[]) kr trivial)
def aga:aO:=⟨2,1,⟨[f 0 2 0,f 4 0 4],[(0,some c6)],[],[]⟩,[⟨[f 8 0 4],[(2,some c3)],[],[]⟩]⟩
def axk:bw:= .b (.l ⟨[],[⟨[f 11 0 4,f 0 11 0,f 11 7 0],[(3,some c3)],[],[]⟩],7,true,0,3⟩ (.e)) (.e)
theorem amj:aga.ok TE:=bV [] [] axk kr kr trivial
end AI
end
end
end Go.Proofs.YtndegphojkiblaaGreatDoor
