/- Towards the last file's theorem: part 46. -/
import Derived.Test.YtndegphojkiblaaGreatDoorG10
import Derived.Test.YtndegphojkiblaaGreatDoorG39
import Derived.Test.YtndegphojkiblaaGreatDoorG44
import Derived.Test.YtndegphojkiblaaGreatDoorG45
import Derived.Test.YtndegphojkiblaaGreatDoorRows
import Derived.ProofKit
import Derived.LaidMore
import Derived.OpenShut
import Derived.Below
import Derived.Stop.Joined
import Derived.SizedLaws
set_option linter.all false
set_option maxHeartbeats 4000000
set_option maxRecDepth 100000
namespace Go.Proofs.YtndegphojkiblaaGreatDoor
noncomputable section
section
open Go.RowKit Pl AI
attribute [local irreducible] ad.wp
def tC:List AC:=[.int .i64 (-9223372036854775808) 9223372036854775807,.sl 9223372036854775807 c6,.int .i64 (-9223372036854775808) 9223372036854775807,.sl 9223372036854775807 [.int .u64 0 18446744073709551615]]
theorem FV:∀{rows:List (List PV)},AC.rows [.int .u8 0 255] rows→eK rows
 |[],_=> ⟨[],fun x hx=> (by cases hx),rfl⟩
 | r ::rows,h=>by
  have h1:=h r ek;obtain⟨l,h2,rfl⟩:=FV (rows:=rows) fun r hr=>h r (fb _ hr)
  match r,h1 with
  | [q],⟨⟨n,hq,n0,n1⟩,_⟩=>
   refine⟨n.toNat::l,fun x hx=> ?_,?_⟩
   · rcases cU.1 hx with rfl|hx
     · omega
     · exact h2 x hx
   · rw[hq,bC,b1,Df n0]
theorem UA:∀{rows:List (List PV)},AC.rows c1 rows→∃fs:List Fl,rows=fs.map aY∧∀f∈fs,Zo f
 |[],_=> ⟨[],rfl,fun f hf=>by cases hf⟩
 | r::rows,h=>by
  obtain⟨fs,rfl,h2⟩:=UA (rows:=rows) fun r hr=>h r (fb _ hr)
  match r,h r ek with
  |[q0,q1,q2],⟨⟨s,e0,hs⟩,⟨b,e1,hb,hbr⟩,⟨p,e2,hp,_⟩,_⟩=>
   obtain rfl:p=[]:=iq om;refine⟨⟨s,b,[]⟩::fs,by rw[e0,e1,e2];rfl,fun f hf=> ?_⟩;rcases cU.1 hf with rfl|hf
   · exact⟨FV hbr,by show b.length≤_;omega,by show(0:Nat)≤_;omega,by show s.size≤_;omega,fun w hw=>by cases hw⟩
   · exact h2 f hf
theorem aDk {r:List PV} (h:AC.dp c8 r):∃(n0 n1 n2 n3 ID IE:Int) (s4 s5 s6 s7 s8 s9 sM so:List (List PV)),r=[.sc (.int .i64 n0),.sc (.int .i64 n1),.sc (.int .i64 n2),.sc (.int .i64 n3),.sl s4,.sl s5,.sl s6,.sl s7,.sl s8,.sl s9,.sl sM,.sl so,.sc (.int .i64 ID),.sc (.int .i64 IE)]:=by
 have step:∀{c:AC} {cs:List AC} {r:List PV},AC.dp (c::cs) r→∃q l,r=q::l∧AC.ok c q∧AC.dp cs l:=fun {c cs r} h=>by
  cases r with
  |nil=>cases h
  |cons q l=>exact⟨q,l,rfl,h.1,h.2⟩
 have stop:∀{r:List PV},AC.dp [] r→r=[]:=fun {r} h=>by
  cases r with
  |nil=>rfl
  |cons q l=>cases h
 unfold c8 at h;obtain⟨q0,l0,e0,⟨n0,f0,_⟩,h0⟩:=step h;obtain⟨q1,l1,e1,⟨n1,f1,_⟩,h1⟩:=step h0;obtain⟨q2,l2,e2,⟨n2,f2,_⟩,h2⟩:=step h1;obtain⟨q3,l3,e3,⟨n3,f3,_⟩,h3⟩:=step h2;obtain⟨q4,l4,e4,⟨s4,f4,_⟩,h4⟩:=step h3;obtain⟨q5,l5,e5,⟨s5,f5,_⟩,h5⟩:=step h4;obtain⟨q6,l6,e6,⟨s6,f6,_⟩,h6⟩:=step h5;obtain⟨q7,l7,e7,⟨s7,f7,_⟩,h7⟩:=step h6;obtain⟨q8,l8,e8,⟨s8,f8,_⟩,h8⟩:=step h7;obtain⟨q9,l9,e9,⟨s9,f9,_⟩,h9⟩:=step h8;obtain⟨GM,l10,e10,⟨sM,f10,_⟩,h10⟩:=step h9;obtain⟨q11,l11,e11,⟨so,f11,_⟩,h11⟩:=step h10;obtain⟨q12,l12,e12,⟨ID,f12,_⟩,Io⟩:=step h11;obtain⟨q13,l13,e13,⟨IE,f13,_⟩,h13⟩:=step Io;have z:=stop h13;subst f0 f1 f2 f3 f4 f5 f6 f7 f8 f9 f10 f11 f12 f13;refine⟨n0,n1,n2,n3,ID,IE,s4,s5,s6,s7,s8,s9,sM,so,?_⟩;rw[e0,e1,e2,e3,e4,e5,e6,e7,e8,e9,e10,e11,e12,e13,z]
def A7 (d:Dk):List PV:=[.sc (.int .i64 d.cap),.sc (.int .i64 d.left),.sl (d.files.map aY)]
def two:List (List PV):=[[.sc (.int .i64 3),.sl [],.sc (.int .i64 0),.sl []],[.sc (.int .i64 6),.sl [],.sc (.int .i64 0),.sl []]]
theorem axT:AC.rows tC two:=fun r hr=>by
 have hn:∀cs,AC.ok (.sl 9223372036854775807 cs) (.sl []):=fun cs=> ⟨[],rfl,dc,fun r hr=>by cases hr⟩
 rcases cU.1 hr with rfl|hr
 · exact⟨⟨3,rfl,dc,dc⟩,hn _,⟨0,rfl,dc,dc⟩,hn _,trivial⟩
 · rw[eS.1 hr];exact⟨⟨6,rfl,dc,dc⟩,hn _,⟨0,rfl,dc,dc⟩,hn _,trivial⟩
theorem afn {A:List (List PV)} (h:AC.rows tC A):bA 4 A=true:=by
 unfold bA;rw[bk];intro r hr;have h:=h r hr
 match r,h with
 |[_,_,_,_],_=>rfl
 |[],h=>cases h
 |[_],h=>cases h.2
 |[_,_],h=>cases h.2.2
 |[_,_,_],h=>cases h.2.2.2
 |_::_::_::_::_::_,h=>cases h.2.2.2.2
theorem alK {A:List (List PV)} (hA:AC.rows tC A):∃(d:Dk) (i l:Int) (gens:List (List PV)),M1 [.r A,.i 12]=some [.i d.cap,.i d.left,.r (d.files.map aY),.i i,.i l,.b false,.r gens]∧mr d∧AC.rows c8 gens∧gens.length≤9:=by
 obtain⟨o,h1,h2,T,hT,h3⟩:=ajE [.r A,.i 12] rfl ⟨fun f hf=>by
   simp[DP]at hf;subst hf;simp[Fa.holds,bH,oY],fun x hx=>by
   simp[DP]at hx;subst hx;exact hA,fun x hx=> (by cases hx),fun x hx=> (by cases hx)⟩
 have hT:=eS.1 hT;subst hT
 match o,h2 with
 |[m0,m1,m2,m3,m4,m5,m6],_=>
 have r4:AC.rows c1 m2.ah:=h3.rw (4,some c1) (by simp);have r8:AC.rows c8 m6.ah:=h3.rw (8,some c8) (by simp);have f4:=h3.fs ⟨14,0,512⟩ (by simp);have f8:=h3.fs ⟨26,0,9⟩ (by simp);have b7:m5.br=false:=h3.bs (7,false) (by simp);simp[Fa.holds,bH]at f4 f8;obtain⟨fs,kK,hg⟩:=UA r4;refine⟨⟨m0.af,m1.af,fs⟩,m3.af,m4.af,m6.ah,?_,nU.2 ⟨?_,hg⟩,r8,om⟩
 · show(G2 [.r A,.i 12]).map vB=_;rw[h1];show some [L.i m0.af,L.i m1.af,L.r m2.ah,L.i m3.af,L.i m4.af,L.b m5.br,L.r m6.ah]=_;rw[kK,b7]
 · show fs.length≤_;have:fs.length=m2.ah.length:=by rw[kK,ax]
   omega
theorem alc {i l:Int} {gens:List (List PV)} (hg:AC.rows c8 gens) (hn:gens.length≤9) (key:Int):∃a0 a1 a2 a3 a4 a5 a6 a7:L,K8 [.i i,.i l,.b false,.r gens,.i key]=some [a0,a1,a2,a3,a4,a5,a6,a7]:=by
 obtain⟨o,h1,h2,_⟩:=ayn [.i i,.i l,.b false,.r gens,.i key] rfl ⟨fun f hf=>by
  simp[BN]at hf;rcases hf with rfl|rfl
  · simp[Fa.holds,bH,mA];omega
  · simp[Fa.holds,bH,mA],fun x hx=>by
  simp[BN]at hx;subst hx;exact hg,fun x hx=>by
  simp[BN]at hx;subst hx;rfl,fun x hx=> (by cases hx)⟩
 match o,h2 with
 |[a0,a1,a2,a3,a4,a5,a6,a7],_=>exact⟨a0,a1,a2,a3,a4,a5,a6,a7,h1⟩
theorem aar (a b:Int):∃n:Int,bF .and .i64 a b=some (.i n)∧n≤9223372036854775807:=⟨_,rfl,(GW .i64 _).2⟩
theorem akV {A:List (List PV)} (hA:AC.rows tC A) (hn:A.length≤2199023255488) (x:It) (which bit left:Int) {d:Dk} (hl:d.files.length≤9223372036854775807) (hp:∀f∈d.files,f.aR.length≤9223372036854775807) (hb:∀f∈d.files,eK f.base∧∀w∈f.aR,eK w.data):
   zW [.r A,.i x.key,.i x.cookie,.i x.off,.i x.size,.i which,.i bit,.i left,.i d.cap,.i d.left,.r (d.files.map aY)]=some [.b true]:=by
 obtain⟨t,hlt,oG⟩:=awt (.i d.cap) (.i d.left) hl hp;refine a_ ?_;unfold Va;refine ay hlt rfl rfl (uR ?_);refine bg (fun hx=> ?_) (fun hx=> ?_)
 · refine ay adv rfl rfl (nW ?_);exact ae rfl
 have ht:t=true:=by have hx:(!t)=false:=hx;simpa using hx
 obtain⟨hl2,hs2⟩:=oG ht;have hgd:mr d:=nU.2 ⟨om,fun f hf=> ⟨(hb f hf).1,by have:=hs2 f hf;omega,by have:=hs2 f hf;omega,by have:=hs2 f hf;omega,fun w hw=> ⟨(hb f hf).2 w hw,by have:=(hs2 f hf).2.2.2 w hw;omega⟩⟩⟩;refine uR ?_;refine Pk ⟨by show([]:List (List PV)).length+A.length≤_;simp only[oT];omega,by show(([]:List (List PV)).length+A.length)*64≤_;simp only[oT];omega,rfl,afn hA⟩ (uR ?_);refine Pk ⟨by show A.length+2≤_;omega,by show(A.length+2)*64≤_;omega,afn hA,rfl⟩ ?_;show ad.wp _ (_++ [L.r (A++two)]) _;have hA2:AC.rows tC (A++two):=fun r hr=> (ei.1 hr).elim (hA r) (axT r)
 obtain⟨m,mi,ml,gens,hm,iI,hg8,Si⟩:=alK hA2;refine nW ?_;refine ay hm rfl rfl (nW ?_);obtain⟨ns,fp,aLB,aJg⟩:=aFy iI;refine ay fp rfl rfl (nW ?_);refine aH (fun xs=>∃y:Dk,xs=[.i y.cap,.i y.left,.r (y.files.map aY)]∧mr y) ?_ ?_
 · refine uR ?_;refine aP rfl (fun hc=> ?_) (fun hc=> ?_);rotate_left
   · exact ae ⟨m,rfl,iI⟩
   rw[ax]at hc;obtain⟨k,hk⟩:∃k:Int,(ns.length:Int)=k:=⟨_,rfl⟩
   refine uR ?_;refine b5 (l:= .i (which.tmod ns.length)) (by
     show(if(((ns.map nR).length:Nat):Int)≠0 then some (L.i (which.tmod ((ns.map nR).length:Nat)))else none)=_;rw[ax,au om]) ?_
   refine uR ?_;have hb1:which.tmod ns.length<ns.length:=IS _ om;have hb2: -(ns.length:Int)<which.tmod ns.length:=by
     have h1:=IS (-which) (show(0:Int)<ns.length by omega);rw[Int.neg_tmod]at h1;omega
   refine dt (n:=which.tmod ns.length+ns.length) (by try dsimp only[At.ev,d1,d2,d3,d4,d5,d6,d7,d8,d9,e0,List.map,bp,Kd.pv];rw[ax]) om om (uR ?_);refine b5 (l:= .i ((which.tmod ns.length+ns.length)%ns.length)) (by
     show(if(((ns.map nR).length:Nat):Int)≠0 then some (L.i ((which.tmod ns.length+ns.length).tmod ((ns.map nR).length:Nat)))else none)=_;rw[ax,au om,IT om]) ?_
   have hb3:=aiQ (which.tmod ns.length+ns.length) (show(ns.length:Int)≠0 by omega);have hb4:=Int.emod_lt_of_pos (which.tmod ns.length+ns.length) (show(0:Int)<ns.length by omega);obtain⟨j,hj⟩:∃j:Nat,(which.tmod ns.length+ns.length)%ns.length=j:=⟨((which.tmod ns.length+ns.length)%ns.length).toNat,om⟩
   rw[hj]at hb4⊢;have pV:j<ns.length:=om;have hsj:=aJg _ (b9 pV);refine nW ?_;refine bz (f:=nR) (j:=j) rfl rfl pV rfl (nW ?_);refine dV (f:=nR) (j:=j) rfl rfl pV rfl rfl (nW ?_);obtain⟨q,hq,hq1⟩:=aar bit 4095;refine b5 (l:= .i q) hq (nW ?_);obtain⟨y,hy,e,dd,rfl,oB⟩:=awQ iI hsj q hq1;refine ay hy rfl rfl (uR ?_);refine aP rfl (fun hz=> ?_) (fun hz=> ?_)
   · exact ae ⟨dd,rfl,oB⟩
   obtain⟨y2,yX,e2,d2,rfl,aJi⟩:=axc iI hsj;refine ay yX rfl rfl (uR ?_);refine aP rfl (fun hz=> ?_) (fun hz=> ?_)
   · exact ae ⟨d2,rfl,aJi⟩
   · exact ae ⟨m,rfl,iI⟩
 rintro _ ⟨sp,rfl,hsp⟩;refine uR ?_;refine aH (fun xs=>∃its:List It,xs=[.r (its.map aU)]∧its.length≤1000) ?_ ?_
 · refine uR ?_;refine wp_loop (I:=fun a=>∃(i:Nat) (its:List It),a=[.i i,.r (its.map aU)]∧i≤gens.length∧its.length≤1+8*i) (mu:=fun a=>match a with|[.i i,_]=>gens.length-i.toNat|_=>0) ⟨0,[x],rfl,om,by show 1≤_;omega⟩ ?_;rintro a ⟨i,its,rfl,e1,e2⟩;refine uR ?_;refine aP rfl (fun hc=> ?_) (fun hc=> ?_);rotate_left
   · exact ae ⟨its,rfl,om⟩
   have hi:i<gens.length:=om;obtain⟨n0,n1,n2,n3,ID,IE,s4,s5,s6,s7,s8,s9,sM,so,hr⟩:=aDk (hg8 _ (b9 hi));refine aH (fun xs=>∃its:List It,xs=[.r (its.map aU)]∧its.length≤1+8*(i+1)) ?_ ?_;rotate_left
   · rintro _ ⟨Sz,rfl,h⟩;refine nW ?_;refine bP (i:=i) rfl om (nW ?_);refine ae ⟨⟨i+1,Sz,rfl,om,h⟩,?_⟩;show gens.length- ((i+1:Nat):Int).toNat<gens.length-i;omega
   refine oe (r:=gens[i]) (show(0:Int)≤(i:Int)by omega) (bX hi) (by rw[hr];rfl) ?_;rw[hr];refine uR ?_;refine wp_loop (I:=fun a=>∃(k:Nat) (its:List It),a=[.i k,.r (its.map aU)]∧k≤8∧its.length≤1+8*i+k) (mu:=fun a=>match a with|[.i i,_]=>8-i.toNat|_=>0) ⟨0,its,rfl,om,om⟩ ?_;rintro a ⟨k,its,rfl,f1,f2⟩;refine uR ?_;refine aP rfl (fun hc=> ?_) (fun hc=> ?_);rotate_left
   · exact ae ⟨its,rfl,om⟩
   have hc:(k:Int)<8:=hc;refine aH (fun xs=>∃its:List It,xs=[.r (its.map aU)]∧its.length≤1+8*i+(k+1)) ?_ ?_;rotate_left
   · rintro _ ⟨Sz,rfl,h⟩;refine nW ?_;refine b5 (l:= .i ((k+1:Nat):Int)) (by
       show some (L.i (IntKind.wrap .u64 ((k:Int)+1)))=_;rw[abM om om];rfl) ?_
     refine nW ?_;refine ae ⟨⟨k+1,Sz,rfl,om,h⟩,?_⟩;show 8- ((k+1:Nat):Int).toNat<8-k;omega
   obtain⟨a0,a1,a2,a3,a4,a5,a6,a7,hf⟩:=alc (i:=mi) (l:=ml) hg8 Si k;refine ay hf rfl rfl (nW ?_);refine aH (fun xs=>∃v:L,xs=[v]) ?_ ?_
   · refine bg (fun hz=> ?_) (fun hz=> ?_)
     · refine uR ?_;exact ae ⟨_,rfl⟩
     · exact ae ⟨_,rfl⟩
   rintro _ ⟨v,rfl⟩;refine nW ?_;refine bg (fun hz=> ?_) (fun hz=> ?_)
   · refine uR ?_;refine ee (r:=(its++ [Pl.It.mk a4.af a5.af a6.af a7.af]).map aU) (sO _) rfl oO oO dc (by rw[ej];rfl) (nW ?_);exact ae ⟨its++ [Pl.It.mk a4.af a5.af a6.af a7.af],rfl,by rw[dL];show its.length+1≤_;omega⟩
   · exact ae ⟨its,rfl,om⟩
 rintro _ ⟨its,rfl,pK⟩;refine nW ?_;refine aH (fun xs=>xs=[]) ?_ ?_;rotate_left
 · rintro _ rfl;refine nW ?_;refine ay adv rfl rfl (nW ?_);exact ae rfl
 obtain⟨q,hq,-⟩:=aar left 1;refine b5 (l:= .i q) hq (nW ?_);obtain⟨q2,aJj⟩:=aAZ (.i m.cap) (.i m.left) (.r (m.files.map aY)) q;refine ay aJj rfl rfl (nW ?_);obtain⟨ds,Ia⟩:∃ds:List Dk,[m,sp,d,⟨m.cap,q2,m.files⟩]=ds:=⟨_,rfl⟩
 have rq:∀y∈ds,mr y:=by
   rw[←Ia];intro y hy;simp only[cU,lS,or_false]at hy;rcases hy with rfl|rfl|rfl|rfl
   · exact iI
   · exact hsp
   · exact hgd
   · exact nU.2 (nU.1 iI)
 refine Tg ?_;show ad.wp _ (_++ [L.r ([m,sp,d,⟨m.cap,q2,m.files⟩].map A7)]) _;have R4:ds.length=4:=by rw[←Ia];rfl
 rw[Ia];refine uR ?_;refine wp_loop (I:=fun a=>∃i:Nat,a=[.i i]∧i≤ds.length) (mu:=fun a=>match a with|[.i i]=>ds.length-i.toNat|_=>0) ⟨0,rfl,om⟩ ?_;rintro a ⟨i,rfl,e1⟩;refine uR ?_;refine aP rfl (fun hc=> ?_) (fun hc=> ?_);rotate_left
 · exact ae rfl
 rw[ax]at hc;have hi:i<ds.length:=om;have oB:=rq _ (b9 hi);refine aH (fun xs=>xs=[]) ?_ ?_;rotate_left
 · rintro _ rfl;refine nW ?_;refine bP (i:=i) rfl om (nW ?_);refine ae ⟨⟨i+1,rfl,om⟩,?_⟩;show ds.length- ((i+1:Nat):Int).toNat<ds.length-i;omega
 refine bz (f:=A7) (j:=i) rfl rfl hi rfl (nW ?_);refine dV (f:=A7) (j:=i) rfl rfl hi rfl rfl (nW ?_);refine dV (f:=A7) (j:=i) rfl rfl hi rfl rfl (nW ?_);refine dV (f:=A7) (j:=i) rfl rfl hi rfl rfl (nW ?_);obtain⟨y,hy⟩:∃y,ds[i]=y:=⟨_,rfl⟩
 rw[hy]at oB⊢;refine wp_loop (I:=fun a=>∃n:Nat,a=[.i n]∧n≤4) (mu:=fun a=>match a with|[.i i]=>4-i.toNat|_=>0) ⟨0,rfl,om⟩ ?_;rintro a ⟨n,rfl,g1⟩;refine uR ?_;refine aP rfl (fun hc=> ?_) (fun hc=> ?_);rotate_left
 · exact ae rfl
 have hc:(n:Int)<4:=hc;have C3:n<4:=om;refine aH (fun xs=>xs=[]) ?_ ?_;rotate_left
 · rintro _ rfl;refine nW ?_;refine bP (i:=n) rfl om (nW ?_);refine ae ⟨⟨n+1,rfl,om⟩,?_⟩;show 4- ((n+1:Nat):Int).toNat<4-n;omega
 refine uR ?_;refine wp_loop (I:=fun a=>∃k:Nat,a=[.i k]∧k≤its.length) (mu:=fun a=>match a with|[.i i]=>its.length-i.toNat|_=>0) ⟨0,rfl,om⟩ ?_;rintro a ⟨k,rfl,k1⟩;refine uR ?_;refine aP rfl (fun hc=> ?_) (fun hc=> ?_);rotate_left
 · exact ae rfl
 rw[ax]at hc;have hk:k<its.length:=om;refine bz (f:=aU) (j:=k) rfl rfl hk rfl (nW ?_);refine dV (f:=aU) (j:=k) rfl rfl hk rfl rfl (nW ?_);refine dV (f:=aU) (j:=k) rfl rfl hk rfl rfl (nW ?_);refine dV (f:=aU) (j:=k) rfl rfl hk rfl rfl (nW ?_);refine dV (f:=aU) (j:=k) rfl rfl hk rfl rfl (nW ?_);refine ay (avM oB) rfl rfl (nW ?_);obtain⟨e,key,cookie,del,data,h1,h2⟩:=aEe oB C3 its[k];refine ay h1 rfl rfl (nW ?_);refine ay h2 rfl rfl (nW ?_);refine aH (fun xs=>xs=[.b false]) ?_ ?_
 · refine uR ?_;refine cJ rfl (fun h=>h rfl) ?_;refine ay (mo key cookie del data) rfl rfl (uR ?_);exact ae rfl
 rintro _ rfl;refine nW ?_;refine cW rfl ?_;refine bP (i:=k) rfl om (nW ?_);refine ae ⟨⟨k+1,rfl,om⟩,?_⟩;show its.length- ((k+1:Nat):Int).toNat<its.length-k;omega
end
section
attribute [local irreducible] zW
open Go.ChangeShapes Go.WideShapes Go.ChangeAt Go.RowKit AI
theorem amc:ownKnob Tryz.prog.godebug=none:=kr
def Mq:List AC:=[.int .u8 0 255]
def qY:List AC:=[.int .i64 (-9223372036854775808) 9223372036854775807,.sl 9223372036854775807 Mq,.bool]
def yC:List AC:=[.str 9223372036854775807,.sl 9223372036854775807 Mq,.sl 9223372036854775807 qY]
def Z5:List AC:=[.int .i64 (-9223372036854775808) 9223372036854775807,.int .i64 (-9223372036854775808) 9223372036854775807,.sl 9223372036854775807 yC]
def acr:List AC:=[.int .u64 0 18446744073709551615,.int .u32 0 4294967295,.int .i64 (-9223372036854775808) 9223372036854775807,.int .i64 (-9223372036854775808) 9223372036854775807]
section
variable {H:Type} {enc:aw×aD→H} {w:av} {base:Nat} {spare:Nat→Bool} {held:Bool}
def M0:bY:=fun _=>False
theorem MK:iR enc Tryz.prog w base spare held M0 71 (.sl 9223372036854775807 Mq):=
 yl Tryz.underlying71 kr dc (fun _ h=>h) (Ub (lU Tryz.underlying5 fun _=>bounds_u8))
theorem amv:iR enc Tryz.prog w base spare held M0 81 (.sl 9223372036854775807 [.int .u64 0 18446744073709551615]):=
 yl Tryz.underlying81 kr dc (fun _ h=>h) (Ub (lU Tryz.underlying22 fun _=>bounds_u64))
theorem alI:El enc Tryz.prog w base spare held M0 73 4 c6:=
 I' Tryz.underlying73 kr rfl rfl rfl rfl kr kr kr kr (lU Tryz.underlying22 fun _=>bounds_u64) (lU Tryz.underlying23 fun _=>bounds_u32) (aeS Tryz.underlying4) MK
theorem aqh:iR enc Tryz.prog w base spare held M0 80 (.sl 9223372036854775807 c6):=
 yl Tryz.underlying80 kr dc (fun _ h=>h) alI
theorem alO:El enc Tryz.prog w base spare held M0 83 4 tC:=
 I' Tryz.underlying83 kr rfl rfl rfl rfl kr kr kr kr (lU Tryz.underlying3 fun _=>bounds_i64) aqh (lU Tryz.underlying3 fun _=>bounds_i64) amv
theorem aDN:iR enc Tryz.prog w base spare held M0 30 (.sl 9223372036854775807 tC):=
 yl Tryz.underlying30 kr dc (fun _ h=>h) alO
theorem aFG:El enc Tryz.prog w base spare held M0 25 4 acr:=
 I' Tryz.underlying25 kr rfl rfl rfl rfl kr kr kr kr (lU Tryz.underlying22 fun _=>bounds_u64) (lU Tryz.underlying23 fun _=>bounds_u32) (lU Tryz.underlying2 fun _=>bounds_i64) (lU Tryz.underlying3 fun _=>bounds_i64)
theorem aoD:El enc Tryz.prog w base spare held M0 111 3 qY:=
 Ko Tryz.underlying111 kr rfl rfl rfl kr kr kr (lU Tryz.underlying2 fun _=>bounds_i64) MK (aeS Tryz.underlying4)
theorem ajT:iR enc Tryz.prog w base spare held M0 107 (.sl 9223372036854775807 qY):=
 yl Tryz.underlying107 kr dc (fun _ h=>h) aoD
theorem axG:El enc Tryz.prog w base spare held M0 109 3 yC:=
 Ko Tryz.underlying109 kr rfl rfl rfl kr kr kr (ara Tryz.underlying9) MK ajT
theorem akS:iR enc Tryz.prog w base spare held M0 34 (.sl 9223372036854775807 yC):=
 yl Tryz.underlying34 kr dc (fun _ h=>h) axG
theorem apj:El enc Tryz.prog w base spare held M0 36 3 Z5:=
 Ko Tryz.underlying36 kr rfl rfl rfl kr kr kr (lU Tryz.underlying2 fun _=>bounds_i64) (lU Tryz.underlying2 fun _=>bounds_i64) akS
end
theorem mc {c:AC} {cs:List AC} {r:List PV} (h:AC.dp (c::cs) r):∃q l,r=q::l∧AC.ok c q∧AC.dp cs l:=by
 cases r with
 |nil=>cases h
 |cons q l=>exact⟨q,l,rfl,h.1,h.2⟩
theorem EI {r:List PV} (h:AC.dp [] r):r=[]:=by
 cases r with
 |nil=>rfl
 |cons q l=>cases h
theorem agQ:∀{rows:List (List PV)},AC.rows qY rows→∃ws:List Wr,rows=ws.map ep∧∀w∈ws,eK w.data
 |[],_=> ⟨[],rfl,fun f hf=>by cases hf⟩
 |r::rows,h=>by
  obtain⟨ws,rfl,h2⟩:=agQ (rows:=rows) fun r hr=>h r (fb _ hr)
  have hr:=h r ek;unfold qY at hr;obtain⟨q0,l0,rfl,⟨n,e0,_⟩,hr⟩:=mc hr;obtain⟨q1,l1,rfl,⟨b,e1,_,hb⟩,hr⟩:=mc hr;obtain⟨q2,l2,rfl,⟨c,e2⟩,hr⟩:=mc hr;obtain rfl:=EI hr;refine⟨⟨n,b,c⟩::ws,by rw[e0,e1,e2];rfl,fun f hf=> ?_⟩;rcases cU.1 hf with rfl|hf
  · exact FV hb
  · exact h2 f hf
theorem agK:∀{rows:List (List PV)},AC.rows yC rows→∃fs:List Fl,rows=fs.map aY∧∀f∈fs,f.aR.length≤9223372036854775807∧eK f.base∧∀w∈f.aR,eK w.data
 |[],_=> ⟨[],rfl,fun f hf=>by cases hf⟩
 |r::rows,h=>by
  obtain⟨fs,rfl,h2⟩:=agK (rows:=rows) fun r hr=>h r (fb _ hr)
  have hr:=h r ek;unfold yC at hr;obtain⟨q0,l0,rfl,⟨s,e0,_⟩,hr⟩:=mc hr;obtain⟨q1,l1,rfl,⟨b,e1,_,hb⟩,hr⟩:=mc hr;obtain⟨q2,l2,rfl,⟨p,e2,hp,hpr⟩,hr⟩:=mc hr;obtain rfl:=EI hr;obtain⟨ws,rfl,hw⟩:=agQ hpr;rw[ax]at hp;refine⟨⟨s,b,ws⟩::fs,by rw[e0,e1,e2];rfl,fun f hf=> ?_⟩;rcases cU.1 hf with rfl|hf
  · exact⟨by show ws.length≤_;omega,FV hb,hw⟩
  · exact h2 f hf
theorem aai {M:bY} {E:Env} {w:av} {cs:List C} {us:Array aD} (ps:List PV) (hcs:cs=ps.map C.p) (hs:us.size=ps.length) (hr:∀(j:Nat) (p:PV) (u:aD),ps[j]? =some p→us.toList[j]? =some u→RP (bad M E) w p u):dq M E w (.agg cs) (.agg us):=by
 subst hcs;refine⟨us,rfl,by rw[ax];exact hs,fun i c hi=> ?_⟩;rw[bO,aW]at hi;obtain⟨p,hp,rfl⟩:=hi;have hlt:=(cN.1 hp).1;have hu:us[i]? =some (us[i]'om):=pW om;have h1:=hr i p _ hp (by rw[IH];exact hu);exact⟨_,hu,h1,h1.tF⟩
theorem ayv {w:av} {v0:aD} {us xs:Array aD} {rows frows:List (List PV)} {key cookie off size which bit left cap lf:Int} (h0:RP M0 w (.sl rows) v0) (hr:AC.rows tC rows) (hn:rows.length≤2199023255488)
   (hu:us.size=4) (h1:∀(j:Nat) (p:PV) (u:aD),[PV.sc (.int .u64 key),.sc (.int .u32 cookie),.sc (.int .i64 off),.sc (.int .i64 size)][j]? =some p→us.toList[j]? =some u→RP M0 w p u)
   (hx:xs.size=3) (h5:∀(j:Nat) (p:PV) (u:aD),[PV.sc (.int .i64 cap),.sc (.int .i64 lf),.sl frows][j]? =some p→xs.toList[j]? =some u→RP M0 w p u) (hf:AC.rows yC frows) (oP:frows.length≤9223372036854775807):
   Calls Tryz.prog 4 #[v0,.agg us,.int .i64 which,.int .i64 bit,.int .i64 left,.agg xs] w fun e w'=>e= .returned (.bool true)∧Below w.heap.size w w':=by
 obtain⟨fs,rfl,hg⟩:=agK hf;rw[ax]at oP;have eF:Gt.F=zW:=rfl;have hp:zW [.r rows,.i key,.i cookie,.i off,.i size,.i which,.i bit,.i left,.i cap,.i lf,.r (fs.map aY)]=some [.b true]:=
   akV hr hn ⟨key,cookie,off,size⟩ which bit left (d:=⟨cap,lf,fs⟩) oP (fun f h=> (hg f h).1) fun f h=> (hg f h).2
 have hA:=aBi [.r rows,.i key,.i cookie,.i off,.i size,.i which,.i bit,.i left,.i cap,.i lf,.r (fs.map aY)] [.b true] rfl (by rw[eF];exact hp) rfl;have hb:bad M0 ⟨fun _=>none,[]⟩=M0:=by
   funext g;simp[bad,M0]
 refine(hA.call w M0 (fun _=>none) #[v0,.agg us,.int .i64 which,.int .i64 bit,.int .i64 left,.agg xs] (fun g h=>h.elim) (fun n x h=>by cases h) (fun n x g h=>by cases h) (fun n m x y g h=>by cases h) (fun n b h=>by simp[Gt]at h) rfl (fun i x hi=> ?_)).mono ?_
 · match i with
   |0=>
    cases hi;refine⟨v0,rfl,?_⟩;show RP (bad M0 _) w (.sl rows) v0;rw[hb];exact h0
   |1=>
    cases hi;refine⟨_,rfl,aai [PV.sc (.int .u64 key),.sc (.int .u32 cookie),.sc (.int .i64 off),.sc (.int .i64 size)] rfl hu ?_⟩;rw[hb];exact h1
   |2=>
    cases hi;refine⟨_,rfl,?_⟩;show RP (bad M0 _) w (.sc (.int .i64 which)) _;exact .sc rfl
   |3=>
    cases hi;refine⟨_,rfl,?_⟩;show RP (bad M0 _) w (.sc (.int .i64 bit)) _;exact .sc rfl
   |4=>
    cases hi;refine⟨_,rfl,?_⟩;show RP (bad M0 _) w (.sc (.int .i64 left)) _;exact .sc rfl
   |5=>
    cases hi;refine⟨_,rfl,aai [PV.sc (.int .i64 cap),.sc (.int .i64 lf),.sl (fs.map aY)] rfl hx ?_⟩;rw[hb];exact h5
   |i+6=>simp[Gt]at hi
 · rintro e w' ⟨v,E',rfl,hF,-,-,hv⟩;have hv:RP _ w' (.sc (.bool true)) v:=hv;cases hv;exact⟨rfl,hF.os,hF.tape,hF.output,hF.size,fun k hk=>hF.block k hk (fun ⟨n,x,h,_⟩=>by cases h)⟩
end
section
open Go.Deep Go.ChangeShapes Go.WideShapes Go.ChangeAt Go.RowKit AI
theorem M7:laidOutB Tryz.prog=true:=kr
def po:List (String×DataW Unit):=Rows.readerLoadsRow.laid
theorem alV (PG:∀(os:Os) (H:Type) (enc:aw×aD→H),∃(w:av) (tape:Tape) (i:Input),w.os=os∧(w.forCall tape i).Shaped Tryz.prog∧i.vars=[]∧Input.okWide Tryz.prog (w.forCall tape i) .any w.heap.size 4 i∧
    ((Rows.readerLoadsSpec.pre enc Tryz.prog Tryz.f4 [] false (w.forCall tape i).memory i.args∧laidMetH Tryz.prog po (w.forCall tape i).memory)∧sizedMet enc Tryz.prog Tryz.f4 (OpenSpec.ofChange Rows.readerLoadsSpec) false (w.forCall tape i).memory i.args)∧Assume.holds {} Tryz.prog (lone (Frame.enter Tryz.prog 4 i.args .normal) [] (w.forCall tape i)))
  (os:Os) (started:os.Started) (H:Type) (enc:aw×aD→H):
  ReturnsInHanded {} Tryz.checked os 4 .any (fun w args=> (Rows.readerLoadsSpec.pre enc Tryz.prog Tryz.f4 [] false w args∧laidMetH Tryz.prog po w)∧sizedMet enc Tryz.prog Tryz.f4 (OpenSpec.ofChange Rows.readerLoadsSpec) false w args)
    (Rows.readerLoadsSpec.post enc Tryz.prog Tryz.f4 false true false false):=by
 refine returnsInHanded_of_change_and (C:=Tryz.checked) (X:=fun w _=>laidMetH Tryz.prog po w) (fun _ _ _ hh h=>h.of_heap hh) amc started kr Tryz.func4 (PG os H enc) ?_;intro W base args ds gs before ait hW _ bj hL _;have hval:∀(j:Nat) t v,Tryz.f4.params[j]? =some t→args[j]? =some v→Value.okWide Tryz.prog W .any base t v:=ait;have hW':=hW;obtain⟨p,q,hA0,hV,rfl,ca,tT⟩:=hW;have hA:DataW.TrodAll enc Tryz.prog W 0 (fun _=>true) true Tryz.f4.params.toList args.toList ds p:=hA0;rw[Tryz.params4]at hA hval;obtain⟨v0,vs0,d0,ds0,p0,q0,oF,rfl,rfl,h0,r0⟩:=trodAll_cons hA;obtain⟨v1,vs1,d1,ds1,p1,q1,rfl,rfl,rfl,h1,r1⟩:=trodAll_cons r0;obtain⟨v2,vs2,d2,ds2,p2,q2,rfl,rfl,rfl,h2,r2⟩:=trodAll_cons r1;obtain⟨v3,vs3,d3,ds3,p3,q3,rfl,rfl,rfl,h3,r3⟩:=trodAll_cons r2;obtain⟨v4,vs4,d4,ds4,p4,q4,rfl,rfl,rfl,h4,r4⟩:=trodAll_cons r3;obtain⟨v5,vs5,d5,ds5,p5,q5,rfl,rfl,rfl,h5,r5⟩:=trodAll_cons r4;obtain⟨rfl,rfl,rfl⟩:=trodAll_nil r5;obtain rfl:args= #[v0,v1,v2,v3,v4,v5]:=by cases args;simp_all
 obtain⟨rfl,rfl⟩:=trodVars_none hV;obtain⟨a0,IF,Ih,rfl⟩:=okWide_slice Tryz.underlying30 (hval 0 30 v0 rfl rfl);obtain⟨us,rfl,cS⟩:=okWide_struct Tryz.underlying25 (hval 1 25 v1 rfl rfl);obtain⟨which,rfl,rfl,rfl,w2⟩:=open_int Tryz.underlying3 (hval 2 3 v2 rfl rfl) h2;obtain⟨bit,rfl,rfl,rfl,w3⟩:=open_int Tryz.underlying2 (hval 3 2 v3 rfl rfl) h3;obtain⟨left,rfl,rfl,rfl,w4⟩:=open_int Tryz.underlying2 (hval 4 2 v4 rfl rfl) h4;obtain⟨xs,rfl,pO⟩:=okWide_struct Tryz.underlying36 (hval 5 36 v5 rfl rfl);rw[show Tryz.prog.cellsOf 25=4 by kernel_rfl]at cS;rw[show Tryz.prog.cellsOf 36=3 by kernel_rfl]at pO;have k0:=h0;have k1:=h1;have k5:=h5;have lt0:∀x∈p0,x.block<W.heap.size:=by obtain⟨m,hm⟩:=k0;exact DataW.trod_lt m _ _ _ hm
 have lt1:∀x∈p1,x.block<W.heap.size:=by obtain⟨m,hm⟩:=k1;exact DataW.trod_lt m _ _ _ hm
 have lt5:∀x∈p5,x.block<W.heap.size:=by obtain⟨m,hm⟩:=k5;exact DataW.trod_lt m _ _ _ hm
 obtain⟨fuel,hf⟩:=h0;obtain⟨aLO,y_⟩:=h1;obtain⟨aLP,hf5⟩:=h5;obtain⟨v,pv,e1,⟨rows,rfl,-,hr⟩,hR⟩:=aDN _ _ _ hf;have e1:[Value.slice a0 IF Ih]=[v]:=e1;cases e1;have hn:rows.length≤2199023255488:=by
  have hrl:rows.length=IF∨rows=[]:=by cases hR<;>simp
  rcases hrl with hrl|hrl
  · rcases open_slice Tryz.underlying30 hf with⟨e,-⟩| ⟨a,len,cap,m,n,D,Pl,e,hb,hl,hm,hmm,ex,hx⟩
    · have e:[Value.slice a0 IF Ih]=[Value.slice none 0 0]:=e;cases e;omega
    · have e:[Value.slice a0 IF Ih]=[Value.slice (some a) len cap]:=e;cases e;cases ex;have hs:=sized_slice bj (j:=0) (t:=30) (e:=83) (by rw[Tryz.params4];rfl) rfl Tryz.underlying30;rw[show Tryz.checked.prog.bytesOf 83=64 from(by kernel_rfl:Tryz.prog.bytesOf 83=64),show reachBytes=140737488351232 by decide]at hs;simp only[ax,aiX]at hs;omega
  · rw[hrl];decide
 obtain⟨-,r1,-,kO,pP⟩:=aFG _ _ _ y_;obtain⟨-,r5,-,Ii,uc⟩:=apj _ _ _ hf5;unfold acr at kO;unfold Z5 at Ii;obtain⟨g0,l0,z0,⟨key,z1,_⟩,i1⟩:=mc kO;obtain⟨g1,l1,z2,⟨cookie,z3,_⟩,i2⟩:=mc i1;obtain⟨g2,l2,z4,⟨off,z5,_⟩,i3⟩:=mc i2;obtain⟨g3,l3,z6,⟨size,z7,_⟩,i4⟩:=mc i3;have i5:=EI i4;obtain⟨y0,m0,t0,⟨cap,t1,_⟩,j1⟩:=mc Ii;obtain⟨y1,m1,t2,⟨lf,t3,_⟩,j2⟩:=mc j1;obtain⟨y2,m2,t4,⟨frows,t5,oP,pM⟩,j3⟩:=mc j2;have j4:=EI j3;rw[z0,z1,z2,z3,z4,z5,z6,z7,i5]at pP;rw[t0,t1,t2,t3,t4,t5,j4]at uc;clear hA0 ait;refine(ayv (key:=key) (cookie:=cookie) (off:=off) (size:=size) (which:=which) (bit:=bit) (left:=left) (cap:=cap) (lf:=lf) hR hr hn cS pP pO uc pM om).mono fun e W' ⟨he,bel⟩=> ?_
 subst he;exact⟨_,rfl,_,_,_,[],_,[],hW',trodAll_mk1 (shut_bool Tryz.underlying4 _),(trodAll_cons_mk (Below.trod M7 kr (dz kr) k0 bel lt0) (trodAll_cons_mk (Below.trod M7 kr (dz kr) k1 bel lt1) (trodAll_cons_mk (shut_int Tryz.underlying3 w2) (trodAll_cons_mk (shut_int Tryz.underlying2 w3) (trodAll_cons_mk (shut_int Tryz.underlying2 w4) (trodAll_cons_mk (Below.trod M7 kr (dz kr) k5 bel lt5) trodAll_mk0)))))),rfl,bel.frame _,fun h=>by cases h⟩
end
end
end Go.Proofs.YtndegphojkiblaaGreatDoor
