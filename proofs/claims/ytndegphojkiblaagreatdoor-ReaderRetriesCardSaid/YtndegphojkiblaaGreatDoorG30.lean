/- A part of the proof. -/
import Derived.Test.YtndegphojkiblaaGreatDoorG14
import Derived.Test.YtndegphojkiblaaGreatDoorG15
import Derived.Test.YtndegphojkiblaaGreatDoorG29
set_option linter.all false
set_option maxHeartbeats 4000000
set_option maxRecDepth 100000
namespace Go.Proofs.YtndegphojkiblaaGreatDoor
noncomputable section
section
open Go.RowKit Pl AI
open Classical
attribute [local irreducible] ae.wp
noncomputable def Ef (fs:List (List Nat)) (hv:List Bool) (sk:List Nat) (n:Int) (i:Nat):Bool:=decide (hv.getD i false=true∧i∉sk∧((fs.getD i []).length:Int)=oQ n)
noncomputable def rY (fs:List (List Nat)) (hv:List Bool) (sk:List Nat) (n:Int):List Bool:=(List.range 6).map (Ef fs hv sk n)
theorem Xn (fs) (hv) (sk) (n):(rY fs hv sk n).length=6:=rfl
theorem QC {fs} {hv} {sk} {n} {i} (h):(rY fs hv sk n)[i]=Ef fs hv sk n i:=by simp[rY]
def fill (us:List Bool) (i:Nat):List Bool:=us.take i++List.replicate (6-i) false
theorem Ri {us} (h:us.length=6) {i} (hi:i≤6):(fill us i).length=6:=by simp only[fill,bE,cL,pQ];omega
theorem aoF {us} (h:us.length=6) {i} (hi:i<6) (hi'):(fill us i).set i us[i]=fill us (i+1):=by
 match us,h with
 |[a,b,c,d,e,f],_=>
  match i,hi with
  |0,_=>rfl
  |1,_=>rfl
  |2,_=>rfl
  |3,_=>rfl
  |4,_=>rfl
  |5,_=>rfl
theorem ajr {us} (h:us.length=6):fill us 6=us:=by
 match us,h with
 |[a,b,c,d,e,f],_=>rfl
theorem aot (us:List Bool) (i):(us.take i).count true≤i:=me (List.count_le_length) (by rw[cL];omega)
theorem Q1 {α:Type} {d} {l:List α} {i} (h):l[i]=l.getD i d:=by rw[mo,bW h];rfl
theorem anl (a g r n) (m4 m5 m6 m7 m8 m9 m10) (h0:0≤n) (h1:n≤1048576) (fs) (hf:fs.length=6) (hv) (hh:hv.length=6) (sk) (hs:sk.length≤6):
   W9 [.i a,.i g,.i r,.i n,m4,m5,m6,m7,m8,m9,m10,.r (fs.map fR),.r (hv.map hR),.r (sk.map kR)]=some [.i ((rY fs hv sk n).count true:Nat),.r ((rY fs hv sk n).map hR)]:=by
 obtain⟨us,fi⟩:∃us,rY fs hv sk n=us:=⟨_,rfl⟩
 have hlen:us.length=6:=by rw[←fi];rfl
 have hat:∀i (h:i<us.length),us[i]=true ↔ hv.getD i false=true∧i∉sk∧((fs.getD i []).length:Int)=oQ n:=fun i h=>by subst fi;rw[QC h];unfold Ef;rw[dj]
 rw[fi];refine aH ?_;refine x_ (r:=List.replicate 6 (hR false)) (by try dsimp only[At.ev,d1,d2,d3,d4,d5,d6,d7,d8,d9,e0,List.map,cb,Kd.pv];exact⟨dc,dc,dc⟩) rfl (nW ?_);refine aB (fun xs=>xs=[.i ((us.count true:Nat):Int),.r (us.map hR)]) ?_ ?_;rotate_left
 · rintro _ rfl;refine nW ?_;exact ad rfl
 refine uR ?_;refine wp_loop (I:=fun x=>∃i:Nat,x=[.i ((us.take i).count true:Nat),.i i,.r ((fill us i).map hR)]∧i≤6) (mu:=fun x=>match x with|[_,.i i,_]=>6-i.toNat|_=>0) ⟨0,rfl,om⟩ ?_;rintro x ⟨i,rfl,e1⟩;have O2:=Ri hlen e1;have hct:=aot us i;refine uR ?_;refine aI rfl (fun hc=> ?_) (fun hc=> ?_);rotate_left
 · rw[aA,hf]at hc;obtain rfl:i=6:=om;refine ad ?_;show[L.i ((List.count true (us.take 6):Nat):Int),L.r ((fill us 6).map hR)]=_;rw[ajr hlen,fD om]
 rw[aA,hf]at hc;have hi:i<us.length:=om;have hst:((fill us i).set i us[i])=fill us (i+1):=aoF hlen om hi;have jb:(fs[i]'om)=fs.getD i []:=Q1 _;have hvi:(hv[i]'om)=hv.getD i false:=Q1 _;refine aB (fun xs=>xs=[.i ((us.take (i+1)).count true:Nat),.r ((fill us (i+1)).map hR)]) ?_ ?_
 · refine aP (f:=fR) (j:=i) rfl rfl om rfl (uR ?_);refine aB (fun xs=>xs=[.r ((fill us (i+1)).map hR)]) ?_ ?_
   · refine aP (f:=hR) (j:=i) rfl rfl om rfl (uR ?_);refine bc (fun hy=> ?_) (fun hy=> ?_)
     · obtain⟨b,hb⟩:=dU (i∈sk);refine ag (ami sk om i hb) rfl rfl (uR ?_);refine bc (fun hz=> ?_) (fun hz=> ?_)
       · have hz:i∉sk:=fun h=>by rw[hb.2 h]at hz;cases hz
         refine uR ?_;refine ag (ara n h0 h1) rfl rfl (uR ?_);refine aP (f:=hR) (j:=i) rfl rfl om rfl (nW ?_);have hu:us[i]=decide (((((fs[i]'om).map b1).length:Nat):Int)=oQ n):=by
          rw[iK,hat i hi,dj,aA,jb,←hvi];exact⟨fun h=>h.2.2,fun h=> ⟨hy,hz,h⟩⟩
         refine sQ (f:=hR) (j:=i) (v:=us[i]) rfl rfl om rfl (by rw[hu];rfl) ?_;rw[hst];refine nW ?_;exact ad rfl
       · have hz:i∈sk:=hb.1 (by have hz:(!b)=false:=hz;simpa using hz);refine aP (f:=hR) (j:=i) rfl rfl om rfl (nW ?_);have hu:us[i]=false:=by
          rw[H8,Ne,hat i hi];exact fun h=>h.2.1 hz
         refine sQ (f:=hR) (j:=i) (v:=us[i]) rfl rfl om rfl (by rw[hu];rfl) ?_;rw[hst];refine nW ?_;exact ad rfl
     · have hy:hv[i]'om=false:=hy;refine aP (f:=hR) (j:=i) rfl rfl om rfl (nW ?_);have hu:us[i]=false:=by
         rw[H8,Ne,hat i hi,←hvi,hy];exact fun h=>by cases h.1
       refine sQ (f:=hR) (j:=i) (v:=us[i]) rfl rfl om rfl (by rw[hu];rfl) ?_;rw[hst];refine nW ?_;exact ad rfl
   rintro _ rfl;refine nW ?_;have aFA:=Ri hlen (i:=i+1) om;refine aP (f:=hR) (j:=i) rfl rfl om rfl (nW ?_);have hg:(fill us (i+1))[i]'om=us[i]:=by
     have:(fill us (i+1))[i]? =some us[i]:=by rw[←hst,H5 om]
     rw[bW om]at this;exact rJ this
   refine dx (f:=hR) (j:=i) rfl rfl om rfl rfl (nW ?_);rw[hg];have jJ:us.take (i+1)=us.take i++ [us[i]]:=gX hi;refine bc (fun hy=> ?_) (fun hy=> ?_)
   · have hy:us[i]=true:=hy;refine bg (i:=(us.take i).count true) rfl om (nW ?_);refine ad ?_;rw[jJ,hy,List.count_append];rfl
   · have hy:us[i]=false:=hy;refine ad ?_;rw[jJ,hy,List.count_append];rfl
 rintro _ rfl;refine nW ?_;refine bg (i:=i) rfl om (nW ?_);refine ad ⟨⟨i+1,rfl,om⟩,?_⟩;show 6- ((i+1:Nat):Int).toNat<6-i;omega
end
section
open Go.RowKit AI
def mR (a b:Nat):Nat→Nat
 |0=>0
 |k+1=>if(b>>>k)%2=1 then mR a b k^^^ (a<<<k)else mR a b k
def ka (p:Nat):Nat→Nat
 |0=>p
 |n+1=>if(ka p n>>> (14-n))%2=1 then ka p n^^^ (285<<< (6-n))else ka p n
def gm (a b:Nat):Nat:=ka (mR a b 8) 7%256
theorem La {a b:Nat} (ha:a<256):∀k,k≤8→mR a b k<2^15
 |0,_=>by show 0<2^15;decide
 |k+1,h=>by
  have h1:=La (b:=b) ha k om;unfold mR;split
  · refine H9 h1 ?_;have:2^k≤2^7:=H_ dc om;have:a*2^k≤255*2^7:=Pz om this;omega
  · exact h1
theorem R1 {p:Nat} (hp:p<2^15):∀n,n≤7→ka p n<2^15
 |0,_=>hp
 |n+1,h=>by
  have h1:=R1 hp n om;unfold ka;split
  · refine H9 h1 ?_;have:2^ (6-n)≤2^6:=H_ dc om;omega
  · exact h1
theorem Uf (a b):gm a b<256:=Nat.mod_lt _ dc
theorem YF {x k:Nat} (h:k≤62) (hx:x*2^k≤4611686018427387904):cU .shl .i64 (x:Int) (k:Int)=some (.i ((x<<<k:Nat):Int)):=by
 show(if 0≤(k:Int)then some (L.i (IntKind.wrap .i64 ((x:Int)*2^ (min (k:Int).toNat IntKind.i64.bits))))else none)=_;rw[ay om,fA,wo (show k≤IntKind.i64.bits by show k≤64;omega),abS];have e:(x:Int)*2^k=((x*2^k:Nat):Int):=by rfl
 rw[e,wrap64 om om]
theorem ofInt8 {x:Nat} (h:x<256):(BitVec.ofInt 8 (x:Int)).toNat=x:=by rw[H7];omega
theorem ofInt64 {x:Nat} (h:x<4611686018427387904):(BitVec.ofInt 64 (x:Int)).toNat=x:=by rw[H7];omega
theorem Gl {x:Nat} (h:x<256):IntKind.wrap .u8 (x:Int)=x:=vr .u8 (by simp[IntKind.min,IntKind.signed]) (by simp[IntKind.max,IntKind.signed,IntKind.bits];omega)
theorem aiU {a b:Nat} (ha:a<256) (hb:b<256):cU .xor .u8 (a:Int) (b:Int)=some (.i ((a^^^b:Nat):Int)):=by
 show some (L.i (IntKind.wrap .u8 ((BitVec.ofInt 8 (a:Int) ^^^BitVec.ofInt 8 (b:Int)).toNat:Int)))=_;rw[BitVec.toNat_xor,ofInt8 ha,ofInt8 hb,Gl (H9 (n:=8) ha hb)]
theorem TN {a b:Nat} (ha:a<2^15) (hb:b<2^15):cU .xor .i64 (a:Int) (b:Int)=some (.i ((a^^^b:Nat):Int)):=by
 have:=H9 ha hb;show some (L.i (IntKind.wrap .i64 ((BitVec.ofInt 64 (a:Int) ^^^BitVec.ofInt 64 (b:Int)).toNat:Int)))=_;rw[BitVec.toNat_xor,ofInt64 om,ofInt64 om,wrap64 om om]
theorem aAw {a:Nat} (ha:a<256):cU .and .u8 (a:Int) 1=some (.i ((a%2:Nat):Int)):=by
 show some (L.i (IntKind.wrap .u8 ((BitVec.ofInt 8 (a:Int)&&&BitVec.ofInt 8 ((1:Nat):Int)).toNat:Int)))=_;rw[PJ,ofInt8 ha,ofInt8 dc,Nat.and_one_is_mod,Gl om]
theorem aoB {a:Nat} (ha:a<2^15):cU .and .i64 (a:Int) 1=some (.i ((a%2:Nat):Int)):=by
 show some (L.i (IntKind.wrap .i64 ((BitVec.ofInt 64 (a:Int)&&&BitVec.ofInt 64 ((1:Nat):Int)).toNat:Int)))=_;rw[PJ,ofInt64 om,ofInt64 dc,Nat.and_one_is_mod,wrap64 om om]
def nS (c:Nat) (d s:List Nat):List Nat:=List.zipWith (fun x y=>x^^^gm c y) d s
theorem Te {c} {d s} (h:d.length=s.length):(nS c d s).length=s.length:=by unfold nS;rw[List.length_zipWith];omega
theorem WB {c} {d s} {i} (h) (hd:i<d.length) (hs:i<s.length):(nS c d s)[i]=d[i] ^^^gm c s[i]:=by simp only[nS,List.getElem_zipWith]
theorem apK {c} {d s} (hd:B8 d):B8 (nS c d s):=fun x hx=>by
 obtain⟨i,hi,rfl⟩:=iq hx;have h:i<d.length∧i<s.length:=by unfold nS at hi;rw[List.length_zipWith]at hi;omega
 rw[WB hi h.1 h.2];exact H9 (n:=8) (hd _ (b8 h.1)) (Uf _ _)
end
section
open Go.RowKit AI
attribute [local irreducible] ae.wp
theorem Jj {a b:Nat} (ha:a<256) (hb:b<256):nO [.i a,.i b]=some [.i (gm a b:Nat)]:=by
 refine aH ?_;refine aB (fun xs=>xs=[.i (mR a b 8:Nat)]) ?_ ?_
 · refine wp_loop (I:=fun x=>∃k:Nat,x=[.i (mR a b k:Nat),.i k]∧k≤8) (mu:=fun x=>match x with|[_,.i k]=>8-k.toNat|_=>0) ⟨0,rfl,om⟩ ?_;rintro x ⟨k,rfl,e1⟩;refine uR ?_;refine aI rfl (fun hc=> ?_) (fun hc=> ?_);rotate_left
   · obtain rfl:k=8:=om;exact ad rfl
   have hp:=La (b:=b) ha k e1;refine aB (fun xs=>xs=[.i (mR a b (k+1):Nat)]) ?_ ?_
   · refine fU (n:=(k:Int)) rfl om om (nW ?_);refine cv (l:= .i ((b>>>k:Nat):Int)) (Ll (show k≤8 by omega)) (nW ?_);refine cv (l:= .i ((b>>>k%2:Nat):Int)) (aAw (Nat.lt_of_le_of_lt (Nat.shiftRight_le _ _) hb)) (uR ?_);refine aI rfl (fun hx=> ?_) (fun hx=> ?_)
     · refine po (n:=(a:Int)) rfl om om (nW ?_);refine fU (n:=(k:Int)) rfl om om (nW ?_);have h2:2^k≤2^7:=H_ dc om;have h3:a*2^k≤255*2^7:=Pz om h2;refine cv (l:= .i ((a<<<k:Nat):Int)) (YF om om) (nW ?_);refine cv (l:= .i ((mR a b k^^^ (a<<<k):Nat):Int)) (TN hp om) (nW ?_);refine ad ?_;show[L.i _]=[L.i _]
       rw[mR,ay om]
     · refine ad ?_;show[L.i _]=[L.i _]
       rw[mR,aC om]
   rintro _ rfl;refine nW ?_;refine bg (i:=k) rfl om (nW ?_);refine ad ⟨⟨k+1,rfl,om⟩,?_⟩;show 8- ((k+1:Nat):Int).toNat<8-k;omega
 rintro _ rfl;refine nW ?_;have hq:=La (b:=b) ha 8 om;obtain⟨p,hpe⟩:∃p,mR a b 8=p:=⟨_,rfl⟩
 unfold gm;rw[hpe]at hq⊢;refine aB (fun xs=>xs=[.i (ka p 7:Nat)]) ?_ ?_
 · refine wp_loop (I:=fun x=>∃n:Nat,x=[.i (ka p n:Nat),.i ((14:Int) -n)]∧n≤7) (mu:=fun x=>match x with|[_,.i k]=>k.toNat-7|_=>0) ⟨0,rfl,om⟩ ?_;rintro x ⟨n,rfl,e1⟩;refine uR ?_;refine aI rfl (fun hc=> ?_) (fun hc=> ?_);rotate_left
   · obtain rfl:n=7:=om;exact ad rfl
   have hp:=R1 hq n e1;have e14:(14:Int) -n=((14-n:Nat):Int):=om;refine aB (fun xs=>xs=[.i (ka p (n+1):Nat)]) ?_ ?_
   · refine fU (n:=((14-n:Nat):Int)) e14 om om (nW ?_);refine cv (l:= .i ((ka p n>>> (14-n):Nat):Int)) (Ll (show 14-n≤64 by omega)) (nW ?_);refine cv (l:= .i ((ka p n>>> (14-n)%2:Nat):Int)) (aoB (Nat.lt_of_le_of_lt (Nat.shiftRight_le _ _) hp)) (uR ?_);refine aI rfl (fun hx=> ?_) (fun hx=> ?_)
     · refine ck (n:=((6-n:Nat):Int)) oO om om (nW ?_);refine fU (n:=((6-n:Nat):Int)) rfl om om (nW ?_);have h2:2^ (6-n)≤2^6:=H_ dc om;refine cv (l:= .i ((285<<< (6-n):Nat):Int)) (YF (x:=285) om om) (nW ?_);refine cv (l:= .i ((ka p n^^^ (285<<< (6-n)):Nat):Int)) (TN hp om) (nW ?_);refine ad ?_;show[L.i _]=[L.i _]
       rw[ka,ay om]
     · refine ad ?_;show[L.i _]=[L.i _]
       rw[ka,aC om]
   rintro _ rfl;refine nW ?_;refine ck (n:=(14:Int) - ((n+1:Nat):Int)) oO om om (nW ?_);refine ad ⟨⟨n+1,rfl,om⟩,?_⟩;show((14:Int) - ((n+1:Nat):Int)).toNat-7< ((14:Int) - (n:Int)).toNat-7;omega
 rintro _ rfl;refine nW ?_;refine uf (n:=((ka p 7%256:Nat):Int)) (by
   show IntKind.wrap .u8 ((ka p 7:Nat):Int)=_;simp[IntKind.wrap,IntKind.bits,IntKind.signed]) ?_
 refine nW ?_;exact ad rfl
theorem anL {c:Nat} (hc:c<256) (d s) (hd:B8 d) (hs:B8 s) (hl:d.length=s.length) (hn:s.length≤4294967296):LN [.r (d.map b1),.r (s.map b1),.i c]=some [.i 0,.r ((nS c d s).map b1)]:=by
 refine aH ?_;refine uR ?_;refine ba rfl (by rw[aA,aA];omega) ?_;obtain⟨o,ho⟩:∃o,nS c d s=o:=⟨_,rfl⟩
 have Cz:o.length=s.length:=by rw[←ho];exact Te hl
 have O3:∀i (h:i<o.length) (h1:i<d.length) (h2:i<s.length),o[i]=d[i] ^^^gm c s[i]:=by subst ho;exact fun i h h1 h2=>WB h h1 h2
 rw[ho];refine aB (fun xs=>xs=[.r (o.map b1)]) ?_ ?_;rotate_left
 · rintro _ rfl;refine nW ?_;exact ad rfl
 refine wp_loop (I:=fun x=>∃i:Nat,x=[.i i,.r ((o.take i).map b1)]∧i≤o.length) (mu:=fun x=>match x with|[.i i,_]=>o.length-i.toNat|_=>0) ⟨0,rfl,om⟩ ?_;rintro x ⟨i,rfl,e1⟩;refine uR ?_;refine aI rfl (fun hc'=> ?_) (fun hc'=> ?_);rotate_left
 · rw[aA]at hc';refine ad ?_;show[L.r ((o.take i).map b1)]=_;rw[fD om]
 rw[aA]at hc';have hi:i<d.length:=om;refine aP (f:=b1) (j:=i) rfl rfl hi rfl (uR ?_);refine aP (f:=b1) (j:=i) rfl rfl (show i<s.length by omega) rfl (uR ?_);refine ag (Jj hc (hs _ (b8 (show i<s.length by omega)))) rfl rfl (nW ?_);refine cv (l:= .i ((o[i]'om:Nat):Int)) (by rw[O3 i om hi om];exact aiU (hd _ (b8 hi)) (Uf _ _)) (uR ?_);refine dC (r:=(o.take (i+1)).map b1) (pA _) rfl oO oO dc (by rw[gX om,dk];rfl) (nW ?_);refine bg (i:=i) rfl om (nW ?_);refine ad ⟨⟨i+1,rfl,om⟩,?_⟩;show o.length- ((i+1:Nat):Int).toNat<o.length-i;omega
def xD (a:Nat):Nat→Nat→Option Nat
 |0,_=>none
 |n+1,b=>cond (Nat.beq (gm a b) 1) (some b) (xD a n (b+1))
def ZL (o:Option Nat):List L:=match o with|some b=> [.i (b:Nat),.i 0]|none=> [.i 0,.i 1]
theorem ahq {a:Nat} (ha:a<256):Bm [.i a]=some (ZL (xD a 255 1)):=by
 obtain⟨o,ho⟩:∃o,xD a 255 1=o:=⟨_,rfl⟩
 rw[ho];refine aH ?_;refine aB (fun xs=>xs=[]∧o=none) ?_ ?_;rotate_left
 · rintro _ ⟨rfl,rfl⟩;refine nW ?_;exact ad rfl
 refine wp_loop (I:=fun x=>∃i:Nat,x=[.i i]∧i≤256∧1≤i∧xD a (256-i) i=o) (mu:=fun x=>match x with|[.i i]=>256-i.toNat|_=>0) ⟨1,rfl,om,om,ho⟩ ?_;rintro x ⟨i,rfl,e1,e0,e2⟩;refine uR ?_;refine aI rfl (fun hc=> ?_) (fun hc=> ?_);rotate_left
 · obtain rfl:i=256:=om;exact ad ⟨rfl,e2.symm⟩
 have hi:i<256:=om;rw[show 256-i=(255-i)+1 by omega,xD]at e2;refine uf (n:=(i:Int)) (Gl hi) (nW ?_);refine ag (Jj ha hi) rfl rfl (uR ?_);refine aI rfl (fun hx=> ?_) (fun hx=> ?_)
 · have hx:gm a i=1:=om;rw[hx]at e2;refine uf (n:=(i:Int)) (Gl hi) (nW ?_);refine ad ?_;rw[←e2];rfl
 · have hx:Nat.beq (gm a i) 1=false:=by rw[H8];exact fun h=>hx (by rw[abO h];rfl)
   rw[hx]at e2;refine bg (i:=i) rfl om (nW ?_);refine ad ⟨⟨i+1,rfl,om,om,?_⟩,?_⟩
   · rw[show 256- (i+1)=255-i by omega];exact e2
   · show 256- ((i+1:Nat):Int).toNat<256-i;omega
end
section
open Go.RowKit
section
variable {α:Type}
def GL (n:Int) (k:Int→α):α:=match n with
 | .ofNat 0=>k (.ofNat 0)
 | .ofNat (m+1)=>k (.ofNat (m+1))
 | .negSucc m=>k (.negSucc m)
def zB:List PV→(List PV→α)→α
 | .sc (.int kd n)::r,k=>GL n fun n=>zB r fun r=>k (.sc (.int kd n)::r)
 |p::r,k=>zB r fun r=>k (p::r)
 |[],k=>k []
def DK:List (List PV)→(List (List PV)→α)→α
 |a::r,k=>zB a fun a=>DK r fun r=>k (a::r)
 |[],k=>k []
def Im (x:L) (k:L→α):α:=match x with
 | .i n=>GL n fun n=>k (.i n)
 | .b true=>k (.b true)
 | .b false=>k (.b false)
 | .r rows=>DK rows fun rows=>k (.r rows)
 |x=>k x
def xm:List L→(List L→α)→α
 |a::r,k=>Im a fun a=>xm r fun r=>k (a::r)
 |[],k=>k []
def xf:List L→List L→(List L→α)→α
 |a::r,m,k=>xf r m fun r=>k (a::r)
 |[],m,k=>k m
theorem QR (n) (k:Int→α):GL n k=k n:=by
 unfold GL;split<;>rfl
theorem KN:∀(r:List PV) (k:List PV→α),zB r k=k r
 |[],_=>rfl
 |p::r,k=>by
  unfold zB;split
  · rename_i h;cases h;rw[QR,KN]
  · rename_i h;cases h;rw[KN]
  · rename_i h;cases h
theorem QT:∀(r:List (List PV)) (k:List (List PV)→α),DK r k=k r
 |[],_=>rfl
 |a::r,k=>by rw[DK,KN,QT]
theorem agx (x) (k:L→α):Im x k=k x:=by
 unfold Im;split
 · rw[QR]
 · rfl
 · rfl
 · rw[QT]
 · rfl
theorem FW:∀(r:List L) (k:List L→α),xm r k=k r
 |[],_=>rfl
 |a::r,k=>by rw[xm,agx,FW]
theorem EJ:∀(a m:List L) (k:List L→α),xf a m k=k (a++m)
 |[],_,_=>rfl
 |x::a,m,k=>by rw[xf,EJ];rfl
end
abbrev GT:=Nat→Option (List L→Option (List L))
def Nd.run (tb:GT) (ρ:List L) (nd:Nd):Option (List L):=match nd with
 | .call t _ args n us=>match tb t with
  |some g=>match g (args.map (At.ev ρ))with
   |some l=>if l.length=n∧(us.all fun i=> ((l[i]?).getD (.b false)).az.all (·.all PV.bare))=true then some l else none
   |none=>none
  |none=>none
 |nd=>nd.ev ρ
def ae.run (tb:GT) (fuel:Nat):ae→List L→Out
 | .ak x,ρ=>some (x,ρ)
 | .op nd k,ρ=>match nd.run tb ρ with
  |some ls=>xm ls fun ls=>xf ρ ls fun ρ=>k.run tb fuel ρ
  |none=>none
 | .ite c a b,ρ=>match(c.ev ρ).bx with
  |true=>a.run tb fuel ρ
  |false=>b.run tb fuel ρ
 | .join body rest,ρ=>match body.run tb fuel ρ with
  |some (.jump 0 args,ρ')=>xm (args.map (At.ev ρ')) fun a=>xf ρ a fun ρ=>rest.run tb fuel ρ
  |some (.jump (k+1) args,ρ')=>some (.jump k args,ρ')
  |r=>r
 | .loop init body,ρ=>fG (fun a=>xm a fun a=>xf ρ a fun ρ=>nc (body.run tb fuel ρ)) fuel (init.map (At.ev ρ))
def nK (tb:GT):ae→Prop
 | .ak _=>True
 | .op nd k=> (match nd with| .call t F _ _ _=>∀g,tb t=some g→∀ls o,g ls=some o→F ls=some o|_=>True)∧nK tb k
 | .ite _ x y=>nK tb x∧nK tb y
 | .join x y=>nK tb x∧nK tb y
 | .loop _ y=>nK tb y
theorem Nd.mP {tb} {ρ} {nd:Nd} {ls} (hc:match nd with| .call t F _ _ _=>∀g,tb t=some g→∀ls o,g ls=some o→F ls=some o|_=>True) (h:nd.run tb ρ=some ls):nd.ev ρ=some ls:=by
 cases nd with
 |call t F args n us=>
  simp only[Nd.run]at h;split at h
  · rename_i g hg;split at h
    · rename_i l hl;simp only[Nd.ev,hc g hg _ _ hl];exact h
    · cases h
  · cases h
 |_=>exact h
theorem WQ {A R} {f g} (h:∀a x,f a=some x→g a=some x):∀{n} {a:A} {r:R},fG f n a=some r→fG g n a=some r
 |0,_,_,hh=>by cases hh
 |n+1,a,r,hh=>by
  simp only[fG]at hh⊢;split at hh
  · rename_i a' ha;rw[h _ _ ha];exact WQ h hh
  · rename_i r' ha;rw[h _ _ ha];exact hh
  · cases hh
theorem ae.mP {tb:GT} {fuel:Nat}:∀{f:ae} {ρ:List L} {r:Lf×List L},nK tb f→f.run tb fuel ρ=some r→f.aa ρ=some r
 | .ak x,ρ,r,_,h=>h
 | .op nd k,ρ,r,hc,h=>by
  simp only[ae.run]at h;split at h
  · rename_i ls cT;rw[FW,EJ]at h;rw[ae.aa,Nd.mP hc.1 cT];exact ae.mP hc.2 h
  · cases h
 | .ite c a b,ρ,r,hc,h=>by
  simp only[ae.run]at h;split at h
  · rename_i ht;rw[ae.aa,ht];exact ae.mP hc.1 h
  · rename_i ht;rw[ae.aa,ht];exact ae.mP hc.2 h
 | .join a b,ρ,r,hc,h=>by
  simp only[ae.run]at h;split at h
  · rename_i args ρ' hb;rw[FW,EJ]at h;rw[ae.aa,ae.mP hc.1 hb];exact ae.mP hc.2 h
  · rename_i k args ρ' hb;rw[ae.aa,ae.mP hc.1 hb];exact h
  · rename_i h1 h2;have:=ae.mP hc.1 h;obtain⟨lf,ρ'⟩:=r;rw[ae.aa,this]
    cases lf with
    |st=>rfl
    |jump k args=>cases k with
     |zero=>exact absurd h (h1 _ _)
     |succ k=>exact absurd h (h2 _ _ _)
 | .loop init body,ρ,r,hc,h=>by
  refine Ha (n:=fuel) (WQ (fun a x hx=> ?_) h);rw[FW,EJ]at hx
  cases hb:body.run tb fuel (ρ++a)with
  |none=>rw[hb]at hx;cases hx
  |some y=>rw[hb]at hx;rw[show body.aa (ρ++a)=some y from ae.mP (f:=body) (fuel:=fuel) hc hb];exact hx
def nL (tb:GT):List (Nat×(List L→Option (List L)))→Prop
 |[]=>True
 | (t,F)::r=> (∀g,tb t=some g→∀ls o,g ls=some o→F ls=some o)∧nL tb r
theorem nL.left {tb}:∀{a b},nL tb (a++b)→nL tb a
 |[],_,_=>trivial
 | (_,_)::_,_,h=> ⟨h.1,h.2.left⟩
theorem nL.right {tb}:∀{a b},nL tb (a++b)→nL tb b
 |[],_,h=>h
 | (_,_)::a,_,h=>nL.right (a:=a) h.2
theorem t_ {tb}:∀{f},nL tb (AI.ae.calls f)→nK tb f
 | .ak _,_=>trivial
 | .op nd k,h=>by
  refine⟨?_,t_ h.right⟩
  cases nd with
  |call t F a n u=>exact h.left.1
  |_=>trivial
 | .ite _ _ _,h=> ⟨t_ h.left,t_ h.right⟩
 | .join _ _,h=> ⟨t_ h.left,t_ h.right⟩
 | .loop _ y,h=>t_ (f:=y) h
theorem XQ {tb} {f} {cs} (e:AI.ae.calls f=cs) (h:nL tb cs):nK tb f:=t_ (by rw[e];exact h)
theorem aZ {tb:GT} {t} {g F:List L→Option (List L)} (e:tb t=some g) (h:∀ls o,g ls=some o→F ls=some o):∀g,tb t=some g→∀ls o,g ls=some o→F ls=some o:=fun g' hg=>by
 rw[e]at hg;cases hg;exact h
theorem aru {tb} {fuel} {f} (hc:nK tb f):∀ls o,kz (f.run tb fuel ls)=some o→kz (f.aa ls)=some o:=fun ls o h=>by
 cases hr:f.run tb fuel ls with
 |none=>rw[hr]at h;cases h
 |some r=>rw[hr]at h;rw[ae.mP hc hr];exact h
def zK (l:List (Nat×(List L→Option (List L)))):GT:=fun t=>AI.lk l t
theorem J7 {tb:GT} {t} {F:List L→Option (List L)} (e:tb t=none):∀g,tb t=some g→∀ls o,g ls=some o→F ls=some o:=fun g hg=>by
 rw[e]at hg;cases hg
def rG (f:ae) (l:List (Nat×(List L→Option (List L)))):List L→Option (List L):=fun ls=>kz (f.run (zK l) 40 ls)
abbrev Gk (g F:List L→Option (List L)):Prop:=∀ls o,g ls=some o→F ls=some o
theorem rK {f} {l} (cs) (h:nL (zK l) cs) (e:AI.ae.calls f=cs:=by kernel_rfl):Gk (rG f l) (Fo f):=aru (XQ e h)
def Kr:PV→PV→Bool
 | .sc (.int k n),.sc (.int k' n')=>decide (k=k')&&decide (n=n')
 |_,_=>false
def FZ:List PV→List PV→Bool
 |a::l,b::m=>Kr a b&&FZ l m
 |[],[]=>true
 |_,_=>false
def Dn:List (List PV)→List (List PV)→Bool
 |a::l,b::m=>FZ a b&&Dn l m
 |[],[]=>true
 |_,_=>false
def KZ:L→L→Bool
 | .i a,.i b=>decide (a=b)
 | .s a,.s b=>decide (a.data.toList=b.data.toList)
 | .r a,.r b=>Dn a b
 |_,_=>false
def He:List L→List L→Bool
 |a::l,b::m=>KZ a b&&He l m
 |[],[]=>true
 |_,_=>false
def xA (o:Option (List L)) (l:List L):Bool:=match o with|some m=>He m l|none=>false
theorem ayr {a b} (h:Kr a b=true):a=b:=by
 unfold Kr at h;split at h
 · rw[bt,dj,dj]at h;rw[h.1,h.2]
 · cases h
theorem UH:∀{a b:List PV},FZ a b=true→a=b
 |[],[],_=>rfl
 |a::l,b::m,h=>by
  rw[FZ,bt]at h;rw[ayr h.1,UH h.2]
 |[],_::_,h=>by cases h
 |_::_,[],h=>by cases h
theorem S_:∀{a b:List (List PV)},Dn a b=true→a=b
 |[],[],_=>rfl
 |a::l,b::m,h=>by
  rw[Dn,bt]at h;rw[UH h.1,S_ h.2]
 |[],_::_,h=>by cases h
 |_::_,[],h=>by cases h
theorem acY {a b} (h:KZ a b=true):a=b:=by
 unfold KZ at h;split at h
 · rw[dj]at h;rw[h]
 · rename_i x y;rw[dj]at h;obtain⟨⟨x⟩⟩:=x;obtain⟨⟨y⟩⟩:=y;have h:x=y:=h;rw[h]
 · rw[S_ h]
 · cases h
theorem Vn:∀{a b:List L},He a b=true→a=b
 |[],[],_=>rfl
 |a::l,b::m,h=>by
  rw[He,bt]at h;rw[acY h.1,Vn h.2]
 |[],_::_,h=>by cases h
 |_::_,[],h=>by cases h
theorem Bs {o} {l} (h:xA o l=true):o=some l:=by
 unfold xA at h;split at h
 · rw[Vn h]
 · cases h
end
section
open Go.RowKit AI
attribute [local irreducible] ae.wp
section
variable {ρ:List L} {Q:Lf×List L→Prop} {k:ae}
end
theorem azz (off e) (h:off≤e):∃K,Full off e K:=by
 have key:∀m:Nat,(∃K,Full off e K)∨∀j,j<m→dJ off e j<e:=by
   intro m
   induction m with
   |zero=>exact .inr fun j hj=>absurd hj om
   |succ m ih=>
    rcases ih with h1|h1
    · exact .inl h1
    · have hb:=(DI off e h m).2;by_cases he:dJ off e m=e
      · exact .inl ⟨m,he,h1⟩
      · refine .inr fun j hj=> ?_
        by_cases hm:j=m
        · subst hm;omega
        · exact h1 j om
 rcases key ((e-off).toNat+1)with h1|h1
 · exact h1
 · have h2:=h1 (e-off).toNat om;have:=EI off e h _ h2;omega
open Classical in
theorem avb {off n} (h:¬qn off n) {K} (hK:Full off (off+n) K):A' [.i off,.i n]=some [.r (mX off (off+n) K),.i 0]:=by
 have hx:∃K,Full off (off+n) K:=⟨K,hK⟩
 show(if qn off n then some [L.r [],L.i 1]else if h:∃K,Full off (off+n) K then some [L.r (mX off (off+n) h.choose),L.i 0]else none)=_;rw[aC h,dif_pos hx,Full.uniq hx.choose_spec hK]
theorem adY (off e) (k):(mX off e k).length=k:=by simp[mX]
end
end
end Go.Proofs.YtndegphojkiblaaGreatDoor
