/- A part of the proof. -/
import Derived.Test.YtndegphojkiblaaGreatDoorG12
import Derived.Test.YtndegphojkiblaaGreatDoorG38
set_option linter.all false
set_option maxHeartbeats 4000000
set_option maxRecDepth 100000
namespace Go.Proofs.YtndegphojkiblaaGreatDoor
noncomputable section
section
open Go.RowKit Pl AI
attribute [local irreducible] ae.wp
def F3:Fs:=fun _=>none
def wx:Fs:=cj F3 0 (some (iz 1 1 0))
theorem ZP:∀n lo,fQ F3 lo n=[]
 |0,_=>rfl
 |n+1,lo=>by rw[fQ,ZP n];rfl
theorem ata:Inv wx [lL 0] (fun _=>iz 1 1 0) 16:=by
 have he:=qp 1 1 0;have one:∀{i},i< [lL 0].length→i=0:=fun {i} h=>by have h:i<1:=h;omega
 refine⟨Tu,fun j b hj=> ?_,fun i hi=> ?_,fun i hi y hy=> ?_,fun i hi hm=> ?_,fun i hi hm=> ?_,fun j hj=> ?_⟩
 · unfold wx at hj;by_cases e:j=0
   · subst e;rw[jw]at hj;cases hj;exact⟨uw _ _ _,om⟩
   · rw[cV e]at hj;cases hj
 · obtain rfl:=one hi;exact⟨uw _ _ _,by rw[he];rfl,om,[],fun x hx=> (by cases hx),by rw[eW];rfl⟩
 · obtain rfl:=one hi;cases hy
 · obtain rfl:=one hi;exact⟨jw,fun k hk bZ=>by unfold wx;rw[cV om];rfl⟩
 · obtain rfl:=one hi;have hm:(1:Int)=3:=hm;omega
 · have hj:9*1≤j:=hj;unfold wx;rw[cV om];rfl
theorem awT (k):has [lL 0] (fun _=>iz 1 1 0) k=none:=by
 unfold has;rw[Gi];rfl;intro i hi;have hi:i<1:=hi;obtain rfl:i=0:=om;rfl
theorem anu:Ny [.i 1,.i 9000]=some [.i 0,.i (-1),.i 1,.i 9000,.r ([lL 0].map gR),.r ((bL wx).map aQ)]:=by
 have hno:eZ F3:=fun j b hj=>by cases hj
 have hf:=ZW hno [lL 0] (.r []) (n:=0) dc rfl;rw[show bL F3=[]from ZP 72 0]at hf;have h35:xq [.i 0]=some [.i 0]:=by
  refine aH ?_;refine Kt (n:=0) rfl (nW ?_);exact ad rfl
 refine aH ?_;refine ag ahf rfl rfl (nW ?_);refine ag h35 rfl rfl (nW ?_);refine ag hf rfl rfl (nW ?_);exact ad rfl
theorem Vd {a:Int}:∃v:Int,cU .and .u64 a 7=some (.i v)∧0≤v∧v<8:=by
 have h:(BitVec.ofInt 64 a&&&BitVec.ofInt 64 7).toNat≤7:=by
  rw[PJ];exact Nat.and_le_right
 refine⟨_,rfl,?_⟩;show 0≤IntKind.wrap .u64 ((BitVec.ofInt 64 a&&&BitVec.ofInt 64 7).toNat:Int)∧IntKind.wrap .u64 ((BitVec.ofInt 64 a&&&BitVec.ofInt 64 7).toNat:Int)<8;rw[MK om om];omega
theorem awk {n:Int} (h0:0≤n) (h1:n≤4294967295):IntKind.wrap .u32 n=n:=vr .u32 (by simp[IntKind.min,IntKind.signed];omega) (by simp[IntKind.max,IntKind.signed,IntKind.bits];omega)
theorem aoV {a:Int}:∃v:Int,cU .and .u32 a 3=some (.i v)∧0≤v∧v<4:=by
 have h:(BitVec.ofInt 32 a&&&BitVec.ofInt 32 3).toNat≤3:=by
  rw[PJ];exact Nat.and_le_right
 refine⟨_,rfl,?_⟩;show 0≤IntKind.wrap .u32 ((BitVec.ofInt 32 a&&&BitVec.ofInt 32 3).toNat:Int)∧IntKind.wrap .u32 ((BitVec.ofInt 32 a&&&BitVec.ofInt 32 3).toNat:Int)<4;rw[awk om om];omega
def wP:List AC:=[.int .u64 0 18446744073709551615,.int .u32 0 4294967295,.bool,.sl 9223372036854775807 [.int .u8 0 255]]
def wH:List AC:=[.int .i64 (-9223372036854775808) 9223372036854775807,.sl 9223372036854775807 wP,.int .i64 (-9223372036854775808) 9223372036854775807,.sl 9223372036854775807 [.int .u64 0 18446744073709551615]]
theorem TU:∀{rows},AC.rows [.int .u8 0 255] rows→∃l:List Nat,B8 l∧rows=l.map b1
 |[],_=> ⟨[],fun x hx=> (by cases hx),rfl⟩
 | r ::rows,h=>by
  have h1:=h r iL;obtain⟨l,h2,rfl⟩:=TU (rows:=rows) fun r hr=>h r (iM _ hr)
  match r,h1 with
  | [q],⟨⟨n,hq,n0,n1⟩,_⟩=>
   refine⟨n.toNat::l,fun x hx=> ?_,?_⟩
   · rcases dL.1 hx with rfl|hx
     · omega
     · exact h2 x hx
   · rw[hq,cu,b1,abG n0]
theorem qf {c} {cs} {r} (h:AC.kn (c::cs) r):∃q l,r=q::l∧AC.ok c q∧AC.kn cs l:=by
 cases r with
 |nil=>cases h
 |cons q l=>exact⟨q,l,rfl,h.1,h.2⟩
theorem LK {r} (h:AC.kn [] r):r=[]:=by
 cases r with
 |nil=>rfl
 |cons q l=>cases h
theorem aib {r} (h:AC.kn wP r):∃(key cookie:Int) (del:Bool) (b:List Nat),r=[.sc (.int .u64 key),.sc (.int .u32 cookie),.sc (.bool del),.sl (b.map b1)]∧B8 b:=by
 obtain⟨q0,l0,rfl,⟨n0,e0,_⟩,hr⟩:=qf h;obtain⟨q1,l1,rfl,⟨n1,e1,_⟩,hr⟩:=qf hr;obtain⟨q2,l2,rfl,⟨d,e2⟩,hr⟩:=qf hr;obtain⟨q3,l3,rfl,⟨rows,e3,_,h3⟩,hr⟩:=qf hr;obtain rfl:=LK hr;obtain⟨b,hb,rfl⟩:=TU h3;exact⟨n0,n1,d,b,by rw[e0,e1,e2,e3],hb⟩
theorem afJ {r} (h:AC.kn wH r):∃(kind g:Int) (l ks:List (List PV)),r=[.sc (.int .i64 kind),.sl l,.sc (.int .i64 g),.sl ks]∧AC.rows wP l∧AC.rows [.int .u64 0 18446744073709551615] ks:=by
 obtain⟨q0,l0,rfl,⟨n0,e0,_⟩,hr⟩:=qf h;obtain⟨q1,l1,rfl,⟨l,e1,_,hl⟩,hr⟩:=qf hr;obtain⟨q2,l2,rfl,⟨n2,e2,_⟩,hr⟩:=qf hr;obtain⟨q3,l3,rfl,⟨ks,e3,_,hk⟩,hr⟩:=qf hr;obtain rfl:=LK hr;exact⟨n0,n2,l,ks,by rw[e0,e1,e2,e3],hl,hk⟩
theorem UC (l:List Nl):bu 4 (l.map Nl.row)=true:=by
 unfold bu;rw[bC];intro x hx;obtain⟨y,_,rfl⟩:=fe.1 hx;rfl
theorem KR {ρ} {Q} {k} {l:List (List PV)} {x i:At} {n j:Nat} (hx:(x.ev ρ).az=l) (hi:(i.ev ρ).ah=j) (hj:j<l.length) (hn:l[j].length=n) (hk:k.wp (ρ++ [.c l[j]]) Q):(ae.op (.row x i n) k).wp ρ Q:=
 iC om (by rw[hx,hi,fA,bW hj]) hn hk
theorem ain {l} (h:AC.rows wP l):∃ls:List Nl,YW [.r l,.i 4]=some [.r (ls.map Nl.row)]∧ls.length≤4∧∀x∈ls,jO x:=by
 suffices wc:∃o,Fo TF [.r l,.i 4]=some o∧∃ls:List Nl,o=[.r (ls.map Nl.row)]∧ls.length≤4∧∀x∈ls,jO x by
   obtain⟨o,h1,ls,rfl,h2⟩:=wc;exact⟨ls,h1,h2⟩
 refine iH ?_;refine aB (fun xs=>∃ls:List Nl,xs=[.r (ls.map Nl.row)]∧ls.length≤4∧∀x∈ls,jO x) ?_ (by rintro _ ⟨ls,rfl,h⟩;refine nW ?_;exact ad ⟨ls,rfl,h⟩);refine wp_loop (I:=fun a=>∃(i:Nat) (ls:List Nl),a=[.i i,.r (ls.map Nl.row)]∧i≤4∧ls.length=i∧∀x∈ls,jO x) (mu:=fun a=>match a with|[.i i,_]=>4-i.toNat|_=>0) ⟨0,[],rfl,om,rfl,fun x hx=>by cases hx⟩ ?_;rintro a ⟨i,ls,rfl,e1,e2,e3⟩;refine aB (bT (i<l.length∧i<4)) ?_ ?_
 · refine uR ?_;refine aI rfl (fun hc=> ?_) (fun hc=>ad (dN om));refine uR ?_;exact ad (dW om)
 rintro _ ⟨t,rfl,ht⟩;refine nW ?_;refine iR rfl ht (fun hc=> ?_) (fun hc=> ?_);rotate_left
 · exact ad ⟨ls,rfl,om,e3⟩
 obtain⟨key,cookie,del,b,hr,hb⟩:=aib (h _ (b8 hc.1));refine KR (l:=l) (j:=i) rfl rfl hc.1 (by rw[hr];rfl) ?_;rw[hr];refine uR ?_;refine aB (fun xs=>xs=[.r ((b.take 30).map b1)]) ?_ ?_
 · refine uR ?_;rw[aA];refine aI rfl (fun hx=> ?_) (fun hx=> ?_)
   · refine uR ?_;refine eC (a:=0) (c:=30) rfl rfl rfl om om (nW ?_);exact ad rfl
   · refine ad ?_;show[L.r (b.map b1)]=_;rw[fD om]
 rintro _ rfl;obtain⟨dt,vO⟩:∃dt,(if del=true then[]else b.take 30)=dt:=⟨_,rfl⟩
 refine nW ?_;refine aB (fun xs=>xs=[.r (dt.map b1)]) ?_ ?_
 · subst vO
   cases del with
   |true=>exact dX rfl (ad rfl)
   |false=>exact bj rfl (ad rfl)
 rintro _ rfl;obtain⟨k',fZ,hk2,hk3⟩:=Vd (a:=key);obtain⟨c',hc1,hc2,hc3⟩:=aoV (a:=cookie);refine nW ?_;refine cv (l:= .i k') fZ (nW ?_);refine cv (l:= .i c') hc1 (uR ?_);refine dC (r:=(ls++ [(⟨k',c',del,dt⟩:Nl)]).map Nl.row) (UC ls) rfl (by show(ls.map Nl.row).length≤_;rw[aA];omega) (by show(1:Nat)≤_;omega) dc (by rw[dk];rfl) (nW ?_);refine bg (i:=i) rfl om (nW ?_);refine ad ⟨⟨i+1,ls++ [⟨k',c',del,dt⟩],rfl,om,by rw[bE,e2];rfl,fun x hx=> ?_⟩,?_⟩
 · rcases im.1 hx with hx|hx
   · exact e3 x hx
   · rw[tn.1 hx];refine⟨hk2,hk3,hc2,by show c'≤_;omega,fun hd=> ?_,fun y hy=> ?_,?_⟩
     · have hd:del=true:=hd;show dt=[]
       rw[←vO,ay hd]
     · have hy:y∈dt:=hy;rw[←vO]at hy;split at hy
       · cases hy
       · exact hb y (mf hy)
     · show dt.length≤30;rw[←vO];split
       · exact fm _
       · rw[cL];omega
 · show 4- ((i+1:Nat):Int).toNat<4-i;omega
abbrev mA (f:Fs) (gs:List Ge) (ds:List Nl):List L:=[.i 0,.i (-1),.r ((bL f).map aQ),.i 1,.i 9000,.b false,.r (gs.map gR),.r (ds.map dR)]
theorem iG.mono {f gs vol ds B} (h:iG f gs vol ds B) {B'} (hB:B≤B'):iG f gs vol ds B':=⟨h.i.mono hB,h.d,h.h⟩
theorem adR {f gs vol ds B} (h:iG f gs vol ds B) (hB:B≤15000) {x} (hx:jO x) (hd:x.del=false):
   ∃f' gs' jc kj,zQ (mA f gs ds++ [.r [x.row]])=some (.b true::mA f' gs' kj)∧iG f' gs' jc kj (B+248):=by
 obtain⟨t1,t2,t3,t4⟩:=h.i.top;have hsz:=G2 hx.len;have had:=WN (h.i.okF om) h.i.s (ds:=ds) hx om (by rw[t2];omega);refine⟨_,_,ph gs vol x,_,had,(h.i.add om hx).mono om,?_,fun k=> ?_⟩
 · unfold o6;rw[aC (by rw[hd];decide)];exact h.d.put
 · unfold o6;rw[aC (by rw[hd];decide),Sg,avm h.i hx hd,h.h k]
theorem awg {f gs vol ds B} (h:iG f gs vol ds B) (hB:B≤15000):
   ∃b f' gs' jc,F_ (mA f gs ds)=some (.b b::dA (bL f')++sA gs')∧iG f' gs' jc ds (B+248):=by
 have hr:=atZ (h.i.okF om) h.i.s (h.i.ft _ (cn _)) (.r (ds.map dR));by_cases h8:gs.length<8
 · rw[ay h8]at hr;exact⟨true,_,_,rM gs vol,hr,h.i.rot h8,h.d,fun k=>by rw[afa h.i];exact h.h k⟩
 · rw[aC h8]at hr;exact⟨false,_,_,vol,hr,h.mono om⟩
theorem anr {f gs vol ds B} (h:iG f gs vol ds B) (hB:B≤15000):
  ∃b f' gs',FX (mA f gs ds)=some (.b b::dA (bL f')++sA gs')∧BK f gs vol b f' gs'∧iG f' gs' vol ds (B+248):=by
 obtain⟨b,f',gs',h1,h2⟩:=ayc h.i hB (.r (ds.map dR));obtain⟨i1,i2,i3⟩:=h2.inv h.i om;exact⟨b,f',gs',h1,h2,i1,h.d,fun k=> (h.h k).trans (G' i2 (fun i _=>i3 i k) fun _ _ _ _=>rfl).symm⟩
theorem anT {α:Type} {f:α→List PV} {l:List α} {k:Nat} (hk:k<l.length):(((l.map f).take (k+1)).drop k)=[f l[k]]:=by
 rw[←nk,←ml,gX hk,List.drop_left' (by rw[cL];omega)];rfl
theorem adp {A} (hA:AC.rows wH A) {most:Int} (hm:most≤12):
   ∃f gs vol ds,Iq [.r A,.i most]=some (mA f gs ds)∧iG f gs vol ds 12000:=by
 suffices wc:∃o,Fo Tr [.r A,.i most]=some o∧∃f gs vol ds,o=mA f gs ds∧iG f gs vol ds 12000 by
   obtain⟨o,h1,f,gs,vol,ds,rfl,h2⟩:=wc;exact⟨f,gs,vol,ds,h1,h2⟩
 refine iH ?_;refine ag anu rfl rfl (nW ?_);refine aB (fun xs=>∃f gs vol ds,xs=mA f gs ds∧iG f gs vol ds 12000) ?_ (by rintro _ ⟨f,gs,vol,ds,rfl,h⟩;refine nW ?_;exact ad ⟨f,gs,vol,ds,rfl,h⟩);refine wp_loop (I:=fun a=>∃(i:Nat) (f:Fs) (gs:List Ge) (vol:Nat→List Nat) (ds:List Nl),a= .i i::mA f gs ds∧i≤12∧iG f gs vol ds (16+992*i)) (mu:=fun a=>match a with| .i i::_=>12-i.toNat|_=>0)
   ⟨0,wx,[lL 0],fun _=>iz 1 1 0,[],rfl,om,ata,List.Pairwise.nil,fun k=> (awT k).symm⟩ ?_
 rintro a ⟨i,f,gs,vol,ds,rfl,e1,e2⟩;refine aB (bT (i<A.length∧(i:Int)<most)) ?_ ?_
 · refine uR ?_;refine aI rfl (fun hc=> ?_) (fun hc=>ad (dN om));refine uR ?_;exact ad (dW om)
 rintro _ ⟨t,rfl,ht⟩;refine nW ?_;refine iR rfl ht (fun hc=> ?_) (fun hc=> ?_);rotate_left
 · exact ad ⟨f,gs,vol,ds,rfl,e2.mono om⟩
 obtain⟨kind,g,l,ks,hr,hl,oh⟩:=afJ (hA _ (b8 hc.1));have hi:i<12:=om;refine aB (fun xs=>∃f gs vol ds,xs=mA f gs ds∧iG f gs vol ds (16+992*(i+1))) ?_ ?_;rotate_left
 · rintro _ ⟨f',gs',jc,kj,rfl,h'⟩;refine nW ?_;refine bg (i:=i) rfl om (nW ?_);refine ad ⟨⟨i+1,f',gs',jc,kj,rfl,om,h'⟩,?_⟩;show 12- ((i+1:Nat):Int).toNat<12-i;omega
 refine KR (l:=A) (j:=i) rfl rfl hc.1 (by rw[hr];rfl) ?_;rw[hr];refine uR ?_;refine cv rfl (nW ?_);generalize IntKind.wrap .i64 _=q;refine aB (fun xs=>∃b:Bool,xs=[.b b]) ?_ ?_
 · refine uR ?_;refine aI rfl (fun h1=>ad ⟨_,rfl⟩) (fun h1=> ?_);refine uR ?_;refine aI rfl (fun h2=>ad ⟨_,rfl⟩) (fun h2=> ?_);refine uR ?_;exact ad ⟨_,rfl⟩
 rintro _ ⟨b,rfl⟩;refine nW ?_;refine bc (fun _=> ?_) (fun _=> ?_)
 ·
   obtain⟨ls,cT,hl4,aO⟩:=ain hl;refine ag cT rfl rfl (nW ?_);refine wp_loop (I:=fun a=>∃(k:Nat) (f:Fs) (gs:List Ge) (vol:Nat→List Nat) (ds:List Nl),a= .i k::mA f gs ds∧k≤ls.length∧iG f gs vol ds (16+992*i+248*k)) (mu:=fun a=>match a with| .i k::_=>ls.length-k.toNat|_=>0) ⟨0,f,gs,vol,ds,rfl,om,e2⟩ ?_;rintro a ⟨k,f',gs',jc,kj,rfl,k1,k2⟩;refine uR ?_;rw[aA];refine aI rfl (fun hx=> ?_) (fun hx=>ad ⟨f',gs',jc,kj,rfl,k2.mono om⟩);have hk:k<ls.length:=om;have Pg:=aO _ (b8 hk);refine aB (fun xs=>∃f gs vol ds,xs=mA f gs ds∧iG f gs vol ds (16+992*i+248*(k+1))) ?_ ?_
   · refine aP (f:=Nl.row) (l:=ls) (j:=k) rfl rfl hk rfl (uR ?_);refine bc (fun hd=> ?_) (fun hd=> ?_)
     · obtain⟨f2,gV,ru,we,h1,h2⟩:=Yy k2 om Pg.k0 Pg.k8;refine aP (f:=Nl.row) (l:=ls) (j:=k) rfl rfl hk rfl (uR ?_);refine ag h1 rfl rfl (nW ?_);exact ad ⟨f2,gV,ru,we,rfl,h2.mono om⟩
     · obtain⟨f2,gV,ru,we,h1,h2⟩:=adR k2 om Pg hd;refine bg (i:=k) rfl om (uR ?_);rw[aA];refine yH (r:=[ls[k].row]) ⟨by show(0:Int)≤(k:Int);omega,by show(k:Int)≤((k+1:Nat):Int);omega,by show((k+1:Nat):Int).toNat≤(ls.map Nl.row).length;rw[aA];omega,UC ls⟩ (anT hk) (nW ?_);refine ag h1 rfl rfl (nW ?_);exact ad ⟨f2,gV,ru,we,rfl,h2.mono om⟩
   · rintro _ ⟨f2,gV,ru,we,rfl,h2⟩;refine nW ?_;refine bg (i:=k) rfl om (nW ?_);refine ad ⟨⟨k+1,f2,gV,ru,we,rfl,om,h2⟩,?_⟩;show ls.length- ((k+1:Nat):Int).toNat<ls.length-k;omega
 refine aB (fun xs=>∃b:Bool,xs=[.b b]) ?_ ?_
 · refine uR ?_;refine aI rfl (fun h1=>ad ⟨_,rfl⟩) (fun h1=> ?_);refine uR ?_;exact ad ⟨_,rfl⟩
 rintro _ ⟨b',rfl⟩;refine nW ?_;refine bc (fun _=> ?_) (fun _=> ?_)
 ·
   obtain⟨b2,f2,gV,ru,h1,h2⟩:=awg e2 om;refine ag h1 rfl rfl (nW ?_);exact ad ⟨f2,gV,ru,ds,rfl,h2.mono om⟩
 refine uR ?_;refine aI rfl (fun _=> ?_) (fun _=> ?_)
 ·
   refine wp_loop (I:=fun a=>∃(k:Nat) (f:Fs) (gs:List Ge) (vol:Nat→List Nat) (ds:List Nl),a= .i k::mA f gs ds∧k≤3∧iG f gs vol ds (16+992*i+248*k)) (mu:=fun a=>match a with| .i k::_=>3-k.toNat|_=>0) ⟨0,f,gs,vol,ds,rfl,om,e2⟩ ?_;rintro a ⟨k,f',gs',jc,kj,rfl,k1,k2⟩;refine aB (bT (k<ks.length∧k<3)) ?_ ?_
   · refine uR ?_;refine aI rfl (fun hc=> ?_) (fun hc=>ad (dN om));refine uR ?_;exact ad (dW om)
   rintro _ ⟨t2,rfl,rl⟩;refine nW ?_;refine iR rfl rl (fun hx=> ?_) (fun hx=>ad ⟨f',gs',jc,kj,rfl,k2.mono om⟩);obtain⟨q0,l0,hq,⟨n0,he0,_⟩,hr2⟩:=qf (oh _ (b8 hx.1));obtain rfl:=LK hr2;subst he0;obtain⟨v,s_,hv2,hv3⟩:=Vd (a:=n0);obtain⟨f2,gV,ru,we,h1,h2⟩:=Yy k2 om hv2 hv3;refine KR (l:=ks) (j:=k) rfl rfl hx.1 (by rw[hq];rfl) ?_;rw[hq];refine uR ?_;refine cv (l:= .i v) s_ (nW ?_);refine ag h1 rfl rfl (nW ?_);refine bg (i:=k) rfl om (nW ?_);refine ad ⟨⟨k+1,f2,gV,ru,we,rfl,om,h2.mono om⟩,?_⟩;show 3- ((k+1:Nat):Int).toNat<3-k;omega
 refine aB (fun xs=>∃b:Bool,xs=[.b b]) ?_ ?_
 · refine uR ?_;refine aI rfl (fun h1=>ad ⟨_,rfl⟩) (fun h1=> ?_);refine uR ?_;exact ad ⟨_,rfl⟩
 rintro _ ⟨b3,rfl⟩;refine nW ?_;refine bc (fun _=> ?_) (fun _=> ?_)
 ·
   obtain⟨b2,f2,gV,h1,_,h2⟩:=anr e2 om;refine ag h1 rfl rfl (nW ?_);exact ad ⟨f2,gV,vol,ds,rfl,h2.mono om⟩
 · exact ad ⟨f,gs,vol,ds,rfl,e2.mono om⟩
theorem PW (gs:List Ge):(gs.map Ge.gn).map ky=gs.map gR:=by rw[gd];rfl
theorem Gg {gs:List Ge} {i:Nat} (h:i<gs.length) (h':i< (gs.map Ge.gn).length):(gs.map Ge.gn)[i]=gs[i].gn:=PN _
theorem XE {gs} (h:dp gs):Mr 1 9000 (gs.map Ge.gn)∧∀g∈gs.map Ge.gn,WM g.map:=by
 have kh:=h.n1;have HX:=h.n8;have hl:(gs.map Ge.gn).length=gs.length:=aA _;refine⟨⟨⟨om,om,om⟩,fun i hi hi'=> ?_,fun hi=> ?_⟩,fun g hg=> ?_⟩
 · have ik:i<gs.length:=om;have hg:=h.ok i ik;rw[Gg ik hi',hl];refine⟨hg.1.gv,hg.2.2,fun h0=> ?_,?_⟩
   · have hg1:=h.ok (i-1) om;rw[Gg (show i-1<gs.length by omega) om,Ge.num,Ge.num,hg.2.1,hg1.2.1];omega
   · have:=hg.1.sz;show gs[i].size≤_;omega
 · have ik:(gs.map Ge.gn).length-1<gs.length:=om;have hg:=h.ok _ ik;rw[Gg ik hi];have h1:=hg.1.sz;have h2:=hg.1.s.len;show gs[(gs.map Ge.gn).length-1].size+24*(items (fF gs[(gs.map Ge.gn).length-1].l gs[(gs.map Ge.gn).length-1].cF)).length≤_;rw[yb hg.1.s.v];omega
 · obtain⟨e,he,rfl⟩:=fe.1 hg;obtain⟨i,hi,rfl⟩:=iq he;exact(h.ok i hi).1.mb.wm
theorem WJ {gs} (h:dp gs) (k):∀n,n≤gs.length→pZ (gs.map Ge.gn) k n=(gi gs k n).map fun p=> ((gs.getD p.1 ⟨0,0,[],0⟩).gn,p.2)
 |0,_=>rfl
 | n+1,hn=>by
  have cQ:n<gs.length:=om;rw[Us (by rw[aA];exact cQ),gi,Gg cQ,rX cQ];rw[show items gs[n].gn.map=gs[n].l from yb (h.ok n cQ).1.s.v _,WJ h k n om]
  cases bG gs[n].l k with
  |none=>rfl
  |some x=>
   show some (gs[n].gn,x)=some ((gs.getD n _).gn,x);rw[jA cQ]
theorem RW {gs} (h:dp gs) (k):yF (sA gs++ [.i k])=some (B_ ((gi gs k gs.length).map fun p=> ((gs.getD p.1 ⟨0,0,[],0⟩).gn,p.2))):=by
 have hs:=XE h;have:=ayH (ro:= .b false) hs.2 hs.1 k;rw[PW,aA,WJ h k _ (cn _)]at this;exact this
theorem QI {gs} (h:dp gs):qg (sA gs)=some [.b true]:=by
 have hs:=XE h;have:=Vl (ro:= .b false) hs.2 (by rw[aA];have:=h.n8;omega) (je hs.1)
 rwa [PW]at this
structure Rs where
 key:Int
 cookie:Int
 acX:Int
 gen:Int
 mode:Int
 rev:Int
 x:It
 tries:Int
abbrev rA (r:Rs):List L:=[.i r.key,.i r.cookie,.i r.acX,.i r.gen,.i r.mode,.i r.rev,.i r.x.key,.i r.x.cookie,.i r.x.off,.i r.x.size,.i r.tries]
def aR (key cookie:Int) (b:List Nat) (e:Int):List PV:=[.sc (.int .u64 key),.sc (.int .u32 cookie),.sc (.bool false),.sl (b.map b1),.sc (.int .i64 e)]
abbrev r0 (k c:Int):Rs:=⟨k,c,0,0,0,0,⟨0,0,0,0⟩,0⟩
abbrev r1 (k c:Int) (i:Nat) (m:Int) (x:It):Rs:=⟨k,c,1,(i+1:Nat),m,0,x,0⟩
theorem asH {gs} (h:dp gs) {k c:Int} (hn:∀p,gi gs k gs.length=some p→p.2.cookie≠c):uQ (rA (r0 k c)++sA gs)=some [.i 0,.i 0,.i 0,.i 0,.i 0,.i 0,.i 0,.i 0,.r [aR 0 0 [] 6]]:=by
 have hf:=RW h k;refine aH ?_
 cases hs:gi gs k gs.length with
 |none=>
  rw[hs]at hf;simp only[Py,B_]at hf;refine ag hf rfl rfl (nW ?_);refine aB (fun xs=>xs=[.b true]) ?_ ?_
  · refine uR ?_;refine dX rfl ?_;exact ad rfl
  rintro _ rfl;refine nW ?_;refine dX rfl (uR ?_);exact ad rfl
 |some p=>
  rw[hs]at hf;simp only[aV,B_]at hf;have:=hn p hs;refine ag hf rfl rfl (nW ?_);refine aB (fun xs=>xs=[.b true]) ?_ ?_
  · refine uR ?_;refine bj rfl (uR ?_);exact ad (dT this)
  rintro _ rfl;refine nW ?_;refine dX rfl (uR ?_);exact ad rfl
theorem ach {gs} (h:dp gs) {k c:Int} {i:Nat} {x} (hs:gi gs k gs.length=some (i,x)) (hc:x.cookie=c):∃hi:i<gs.length,uQ (rA (r0 k c)++sA gs)=some [.i 1,.i (i+1:Nat),.i gs[i].mode,.i 0,.i x.key,.i x.cookie,.i x.off,.i x.size,.r []]:=by
 have hi:=(AJ hs).1;have hi:i<gs.length:=hi;have hf:=RW h k;rw[hs]at hf;simp only[aV,B_]at hf;rw[jA hi,Ge.num,(h.ok i hi).2.1]at hf;refine⟨hi,aH ?_⟩;refine ag hf rfl rfl (nW ?_);refine aB (fun xs=>xs=[.b false]) ?_ ?_
 · refine uR ?_;refine bj rfl (uR ?_);exact ad (dF fun h=>h hc)
 rintro _ rfl;refine nW ?_;refine bj rfl ?_;exact ad rfl
theorem aco {gs} (h:dp gs) {i:Nat} (hi:i<gs.length) (m v:Int) (x:It):Ln [.r (gs.map gR),.i (i+1:Nat),.i m,.i v,.i x.key,.i x.cookie,.i x.off,.i x.size]=some [.i i]:=by
 have HX:=h.n8;refine aH ?_;refine aB (fun xs=>False) ?_ (by rintro _ h;cases h);refine uR ?_;rw[aA];refine wp_loop (I:=fun a=>∃j:Nat,a=[.i j]∧j≤i) (mu:=fun a=>match a with|[.i j]=>gs.length-j.toNat|_=>0) ⟨0,rfl,om⟩ ?_;rintro a ⟨j,rfl,e1⟩;have hj:j<gs.length:=om;have Cn:=(h.ok j hj).2.1;refine uR ?_;refine cS rfl om ?_;refine aP (f:=gR) (l:=gs) (j:=j) rfl rfl hj rfl (uR ?_);have aEu:∀l:List L,Lu (gN gs[j].gn++ [.i (i+1:Nat),.i m,.i v,.i x.key,.i x.cookie,.i x.off,.i x.size])=some [.b (decide (gs[j].gn.num=((i+1:Nat):Int)))]:=fun _=>rfl
 refine ag (aEu []) rfl rfl (nW ?_);refine iR rfl decide_eq_true_iff (fun hq=> ?_) fun hq=> ?_
 · rw[Ge.num,Cn]at hq;obtain rfl:j=i:=om;exact ad rfl
 · rw[Ge.num,Cn]at hq;refine bg (i:=j) rfl om (nW ?_);refine ad ⟨⟨j+1,rfl,om⟩,?_⟩;show gs.length- ((j+1:Nat):Int).toNat<gs.length-j;omega
theorem Inv.rdy {f gs vol B} (h:Inv f gs vol B) {i:Nat} (hi:i<gs.length) {x} (hx:x∈gs[i].l):wW (vol i) x:=by
 have hg:=(h.s.ok i hi).1;have hk:=hg.s.k x hx;exact⟨h.rc i hi x hx,hg.s.v.2 x hx,hg.GW hx (h.vb i hi).2.1,hk.1,hk.2⟩
theorem avg {f gs vol B} (h:Inv f gs vol B) (hB:B≤16000) {i:Nat} (hi:i<gs.length) {x} (hx:x∈gs[i].l) {m:Int} (hm:gs[i].mode=3→m=3) (k c:Int):
   Ad (rA (r1 k c i m x)++dA (bL f)++sA gs)=some [.i 1,.i 0,.r [aR x.key x.cookie (eH (vol i) x) 0]]:=by
 have aO:=h.okF om;have hr:=h.rdy hi hx;have hg:=h.s.ok i hi;have h8:=hg.1.n8;refine aH ?_;refine ag (aco h.s hi m 0 x) rfl rfl (nW ?_);refine aB (fun xs=>xs=[.b false]) ?_ ?_
 · refine uR ?_;refine ba rfl om ?_;refine aP (f:=gR) (l:=gs) (j:=i) rfl rfl hi rfl (uR ?_);refine ba rfl (fun h=>h rfl) ?_;refine aP (f:=gR) (l:=gs) (j:=i) rfl rfl hi rfl (uR ?_);refine aI rfl (fun h3=> ?_) fun h3=>ad rfl
   refine uR ?_;exact ad (dF fun h=>h (hm h3))
 rintro _ rfl;refine nW ?_;refine bj rfl ?_;refine aB (fun xs=>xs=[.i x.key,.i x.cookie,.b false,.i 0,.r ((eH (vol i) x).map b1)]) ?_ ?_
 · refine aP (f:=gR) (l:=gs) (j:=i) rfl rfl hi rfl (uR ?_);refine aI rfl (fun h3=> ?_) fun h3=> ?_
   · obtain⟨its,hs⟩:=h.cl i hi h3;refine ag (axo aO om (h.vb i hi).1 hs hr (hs.m x hx)) rfl rfl (uR ?_);refine cS rfl rfl ?_;exact ad rfl
   · refine ag (anQ aO om (h.op i hi h3).1 hr) rfl rfl (nW ?_);refine dX rfl ?_;exact ad rfl
 rintro _ rfl;refine uR ?_;exact ad rfl
theorem YJ {f} {gs} (h:dp gs) {k c:Int} {a b d e:Int} {y:It} {rows:List (List PV)} (hl:uQ (rA (r0 k c)++sA gs)=some [.i a,.i b,.i d,.i e,.i y.key,.i y.cookie,.i y.off,.i y.size,.r rows]):
   qi (dA (bL f)++sA gs++rA (r0 k c))=some (.i 0::rA ⟨k,c,a,b,d,e,y,0⟩++ [.r rows]):=by
 refine aH ?_;refine aB (fun xs=>xs=[.i 0]) ?_ ?_
 · refine ag (QI h) rfl rfl (uR ?_);refine bj rfl ?_;refine aB (fun xs=>xs=[.b false]) ?_ ?_
   · refine uR ?_;refine ba rfl (fun h=>h rfl) ?_;exact ad rfl
   rintro _ rfl;refine nW ?_;refine bj rfl ?_;refine aB (fun xs=>xs=[.b false]) ?_ ?_
   · refine uR ?_;refine ba rfl (by show¬(0:Int)=1;omega) ?_;exact ad rfl
   rintro _ rfl;refine nW ?_;refine bj rfl ?_;exact ad rfl
 rintro _ rfl;refine uR ?_;refine ba rfl (fun h=>h rfl) ?_;refine aB (fun xs=>xs=[.i a,.i b,.i d,.i e,.i y.key,.i y.cookie,.i y.off,.i y.size,.i 0,.r rows]) ?_ ?_
 · refine uR ?_;refine cS rfl rfl ?_;refine ag hl rfl rfl (nW ?_);exact ad rfl
 rintro _ rfl;refine nW ?_;exact ad rfl
theorem aiZ {f} {gs} (h:dp gs) {k c:Int} {i:Nat} {m:Int} {x:It} {a t:Int} {rows:List (List PV)} (hl:Ad (rA (r1 k c i m x)++dA (bL f)++sA gs)=some [.i a,.i t,.r rows]):
   qi (dA (bL f)++sA gs++rA (r1 k c i m x))=some (.i 0::rA ⟨k,c,a,(i+1:Nat),m,0,x,t⟩++ [.r rows]):=by
 refine aH ?_;refine aB (fun xs=>xs=[.i 0]) ?_ ?_
 · refine ag (QI h) rfl rfl (uR ?_);refine bj rfl ?_;refine aB (fun xs=>xs=[.b false]) ?_ ?_
   · refine uR ?_;refine cS rfl (by show(1:Int)≠0;omega) (uR ?_);exact ad (dF fun h=>h rfl)
   rintro _ rfl;refine nW ?_;refine bj rfl ?_;refine aB (fun xs=>xs=[.b false]) ?_ ?_
   · refine uR ?_;refine cS rfl rfl (uR ?_);exact ad (dF om)
   rintro _ rfl;refine nW ?_;refine bj rfl ?_;exact ad rfl
 rintro _ rfl;refine uR ?_;refine ba rfl (fun h=>h rfl) ?_;refine aB (fun xs=>xs=[.i a,.i (i+1:Nat),.i m,.i 0,.i x.key,.i x.cookie,.i x.off,.i x.size,.i t,.r rows]) ?_ ?_
 · refine uR ?_;refine ba rfl (by show¬(1:Int)=0;omega) ?_;refine ag hl rfl rfl (nW ?_);exact ad rfl
 rintro _ rfl;refine nW ?_;exact ad rfl
theorem Tn {l:List Fl} (hl:l.length≤1000) (hp:∀x∈l,x.aY=[]):BU [.i 0,.i (-1),.r (l.map aQ)]=some [.r (l.map aQ)]:=by
 refine aH ?_;refine aB (fun xs=>xs=[.r (l.map aQ)]) ?_ (by rintro _ rfl;refine nW ?_;exact ad rfl);refine uR ?_;rw[aA];refine wp_loop (I:=fun a=>∃i:Nat,a=[.i i,.r ((l.take i).map aQ)]∧i≤l.length) (mu:=fun a=>match a with|[.i i,_]=>l.length-i.toNat|_=>0) ⟨0,rfl,om⟩ ?_;rintro a ⟨i,rfl,e1⟩;refine uR ?_;refine aI rfl (fun hc=> ?_) (fun hc=> ?_);rotate_left
 · refine ad ?_;show[L.r ((l.take i).map aQ)]=_;rw[fD om]
 have hi:i<l.length:=om;have hpi:=hp _ (b8 hi);refine aP (f:=aQ) (l:=l) (j:=i) rfl rfl hi rfl ?_;have hrow:aQ l[i]=[.sc (.string l[i].name),.sl l[i].base,.sl []]:=by unfold aQ;rw[hpi];rfl
 rw[hrow];refine uR ?_;refine aB (fun xs=>xs=[.r []]) ?_ ?_
 · refine uR ?_;refine wp_loop (I:=fun a=>a=[.i 0,.r []]) (mu:=fun _=>0) rfl ?_;rintro a rfl;refine uR ?_;refine ba rfl oO ?_;exact ad rfl
 rintro _ rfl;refine uR ?_;refine dC (r:=(l.take (i+1)).map aQ) (o8 _) rfl (by show((l.take i).map aQ).length≤_;rw[aA,cL];omega) (by show(1:Nat)≤_;omega) dc (by rw[gX hi,dk];show _=_++ [aQ l[i]];rw[hrow];rfl) (nW ?_);refine bg (i:=i) rfl om (nW ?_);refine ad ⟨⟨i+1,rfl,om⟩,?_⟩;show l.length- ((i+1:Nat):Int).toNat<l.length-i;omega
theorem Yo {f}:∀x∈bL f,x.aY=[]:=fun x hx=>by
 obtain⟨j,b,_,_,_,rfl⟩:=lS hx;rfl
theorem adG {gs:List Ge} (hl:gs.length≤8):DZ (sA gs)=some [.r (gs.map gR)]:=by
 have vZ:∀g:Gn,Kb (gN g)=some []:=fun g=>by
   refine aH ?_;refine ag (l:=[]) ?_ rfl rfl (ad rfl);refine aH ?_;exact ad rfl
 refine aH ?_;refine aB (fun xs=>xs=[.r (gs.map gR)]) ?_ (by rintro _ rfl;refine nW ?_;exact ad rfl);refine uR ?_;rw[aA];refine wp_loop (I:=fun a=>∃i:Nat,a=[.i i,.r ((gs.take i).map gR)]∧i≤gs.length) (mu:=fun a=>match a with|[.i i,_]=>gs.length-i.toNat|_=>0) ⟨0,rfl,om⟩ ?_;rintro a ⟨i,rfl,g1⟩;refine uR ?_;refine aI rfl (fun hc=> ?_) (fun hc=> ?_);rotate_left
 · refine ad ?_;show[L.r ((gs.take i).map gR)]=_;rw[fD om]
 have hi:i<gs.length:=om;refine aP (f:=gR) (l:=gs) (j:=i) rfl rfl hi rfl (uR ?_);refine ag (vZ gs[i].gn) rfl rfl (uR ?_);refine xQ (r:=(gs.take (i+1)).map gR) (BA _) rfl (by show((gs.take i).map gR).length≤_;rw[aA,cL];omega) (by show(1:Nat)≤_;omega) dc (by rw[gX hi,dk];rfl) (nW ?_);refine bg (i:=i) rfl om (nW ?_);refine ad ⟨⟨i+1,rfl,om⟩,?_⟩;show gs.length- ((i+1:Nat):Int).toNat<gs.length-i;omega
theorem Qu (a b):xR [a,b]=some []:=by
 refine aH ?_;exact ad rfl
end
end
end Go.Proofs.YtndegphojkiblaaGreatDoor
