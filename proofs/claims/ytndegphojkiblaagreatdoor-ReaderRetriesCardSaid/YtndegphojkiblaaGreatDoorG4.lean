/- A part of the proof. -/
import Derived.Test.YtndegphojkiblaaGreatDoorG3
import Derived.MapKept
set_option linter.all false
set_option maxHeartbeats 4000000
set_option maxRecDepth 100000
namespace Go.Proofs.YtndegphojkiblaaGreatDoor
noncomputable section
section
open Go.RowKit
open Classical
def qm (X:Fx) (E:Env) (st:av) (d:Nat):Prop:=∀n,d≤n→n<d+8→E.N n=none∧n∉st.ar∧n<st.next∧X.k0≤n
section
variable {X:Fx} {E:Env} {st:av} {a:Act} {w:a7}
theorem apz (h:Rel X E st a w) {d} (hF:qm X E st d) {f} {vals} {xs} (hx1:vals.size=xs.length) (hx2:∀(i:Nat) (x),xs[i]? =some x→∃u,vals[i]? =some u∧db X.M E w x u) {v} {ef} {rd} (hc:AF X.P st d f xs v ef rd):
   Own X.P f∧Calls X.P f vals w fun e w'=>∃u E',e= .returned u∧(∀n,¬(d≤n∧n<d+8)→E.N n=none→E'.N n=none)∧Rel X E' (st.df ef) a w'∧RV X.M E' w' v u:=by
 obtain⟨cargs,H,r,H',ι,L,hA,hlen,sX,kf,gS,Hl,hι,hL,Cr,Od,Oe,Of,vM,hgι,sY,hgd,rfl,Hn,_⟩:=hc;refine⟨hA.own,?_⟩;have aBB:∀i,i<ι.length→∃n x,ι[i]? =some n∧E.N n=some x:=by
   intro i hi;have hi':i<H.length:=om;obtain⟨n,b,h1,h2,h3⟩:=Hl i _ (bW hi');have hb:=h.row (hι n (dn h1)).1 h2
   cases b with
   |box cs=>obtain⟨x,_,_,_,h4,_⟩:=hb;exact⟨n,x,h1,h4⟩
   |row e rows=>obtain⟨x,_,_,h4,_⟩:=hb;exact⟨n,x,h1,h4⟩
   |map es=>obtain⟨x,_,_,_,h4,_⟩:=hb;exact⟨n,x,h1,h4⟩
 have hιinj:∀(i j n:Nat),ι[i]? =some n→ι[j]? =some n→i=j:=by
   intro i j n h1 h2;have hi:=(dr.1 h1)
   have hj:=(dr.1 h2)
   obtain⟨eR,ik⟩:=hi;obtain⟨pG,N'⟩:=hj;have hp:=jL.1 sX;rcases HZ i j with hlt|heq|hlt
   · exact absurd (ik.trans N'.symm) (hp i j eR pG hlt)
   · exact heq
   · exact absurd (N'.trans ik.symm) (hp j i pG eR hlt)
 have pH:=hA.call w (pn X.M E ι L) (kp E ι) vals ?_ ?_ ?_ ?_ ?_ ?_ ?_
 · refine pH.mono ?_;rintro e w' ⟨u,E',rfl,ja,fj,Ho,hrv⟩
   let E2:Env:=⟨fun n=>if n∈ef.ar then none else if d≤n∧n<d+8 then E'.N (ι.length+(n-d))else E.N n,ef.ar++E.ar⟩
   have yY:∀n y,E2.N n=some y→n∉ef.ar∧((d≤n∧n<d+8∧E'.N (ι.length+(n-d))=some y)∨(¬(d≤n∧n<d+8)∧E.N n=some y)):=by
     intro n y hy;simp only[E2]at hy;split at hy
     · cases hy
     · rename_i hg;split at hy
       · rename_i hd;exact⟨hg,.inl ⟨hd.1,hd.2,hy⟩⟩
       · rename_i hd;exact⟨hg,.inr ⟨hd,hy⟩⟩
   have aai:∀n y,E.N n=some y→¬(d≤n∧n<d+8):=fun n y hy hd=>by rw[(hF n hd.1 hd.2).1]at hy;cases hy
   have Hq:∀n,n∉ef.ar→¬(d≤n∧n<d+8)→E2.N n=E.N n:=fun n h1 h2=>by simp only[E2,aC h1,aC h2]
   have hlt:∀n y g,E.N n=some y→y.g=some g→g<w.heap.size:=fun n y g hy hg=> (h.names n y g hy hg).1
   have Og:∀(i n:Nat) (x:Nm),ι[i]? =some n→n∉ef.ar→E.N n=some x→E'.N i=some x:=by
     intro i n x hi hn hx;have h1:H'.lookup i≠none:=fun h1=>hn ((hgι i n hi).2 h1)
     obtain⟨b,hb⟩:=Option.ne_none_iff_exists'.1 h1;have Oh:=Ho i b hb;have hne:E'.N i≠none:=by
       cases b with
       |box cs=>obtain⟨y,_,_,_,h4,_⟩:=Oh;rw[h4];simp
       |row e rows=>obtain⟨y,_,_,h4,_⟩:=Oh;rw[h4];simp
       |map es=>obtain⟨y,_,_,_,h4,_⟩:=Oh;rw[h4];simp
     have n4:i<H.length:=by rw[←hlen];exact(dr.1 hi).1
     rcases fj.dz i n4 with h2|h2
     · exact absurd h2 hne
     · rw[h2];simp only[kp,hi];exact hx
   have Oi:∀m x,m<ι.length+8→(m<ι.length→H'.lookup m≠none)→E'.N m=some x→E2.N (o9 ι d m)=some x:=by
     intro m x hm hl hx;unfold o9;split
     · rename_i lA;obtain⟨n,y,h1,h2⟩:=aBB m lA;have ew:n∉ef.ar:=fun hg=>hl lA ((hgι m n h1).1 hg)
       rw[h1,fx,Hq n ew (aai n y h2)];have:=Og m n y h1 ew h2;rw[hx]at this;rw[h2,this]
     · have h1:d≤d+(m-ι.length)∧d+(m-ι.length)<d+8:=om;simp only[E2];rw[aC (fun hg=>by have:=hgd _ hg;omega),ay h1,show ι.length+(d+(m-ι.length) -d)=m by omega];exact hx
   have hst:(∀n∈L,n∈ef.ar)→h_ (bad (pn X.M E ι L) E') (bad X.M E2) w' w':=by
     intro hLg g o u h1 h2;refine⟨h1,fun h3=>h2 ?_⟩;rcases h3 with h3| ⟨n,x,h4,h5⟩
     · exact .inl (.inl h3)
     · obtain⟨h6,h7⟩:=yY n x h4;rcases h7 with⟨_,_,h7⟩| ⟨_,h7⟩
       · exact .inr ⟨_,x,h7,h5⟩
       · by_cases hn:n∈ι
         · obtain⟨i,hi,c_⟩:=iq hn;exact .inr ⟨i,x,Og i n x (by rw[←c_];exact bW hi) h6 h7,h5⟩
         · exact .inl (.inr ⟨n,x,h7,h5,hn,fun hl=>h6 (hLg n hl)⟩)
   have hG : gx X.M E E2 w w':={
     cell := fun g o u h1 h2=>by
       have hg:=World.block_lt_of_cell? w ⟨g,o,none⟩ h1;have hb:=ja.block g hg (fun ⟨m,x,h3,h4⟩=>by
         obtain⟨n,h5,h6⟩:=mU h3;exact h2 (.inr ⟨n,x,h6,h4⟩))
       refine⟨(World.cell?_of_block (w:=w) (a:=⟨g,o,none⟩) hb).trans h1,fun h3=>h2 ?_⟩;rcases h3 with h3| ⟨n,x,h4,h5⟩
       · exact .inl h3
       · obtain⟨_,h7⟩:=yY n x h4;rcases h7 with⟨_,_,h7⟩| ⟨_,h7⟩
         · rcases(fj.names _ x g h7 h5).2 with⟨m,y,h8,h9⟩|h8
           · obtain⟨k,h10,h11⟩:=mU h8;exact .inr ⟨k,y,h11,h9⟩
           · have hg':g<w.heap.size:=hg;omega
         · exact .inr ⟨n,x,h7,h5⟩
     name:=fun n x hx=>by
       by_cases hg:n∈ef.ar
       · exact .inl (zf _ hg)
       · exact .inr (by rw[Hq n hg (aai n x hx)];exact hx)
     ar:=fun n hn=>wk _ hn}
   have aBD:∀n∈ef.ar,n<st.next:=fun n hn=>by have:=hgd n hn;have:=(hF d (cn _) om).2.2.1;omega
   refine⟨u,E2,rfl,fun n hn Z_=> ?_,?_,?_⟩
   · simp only[E2,aC hn];split
     · rfl
     · exact Z_
   · refine h.step ef (nx:=st.next) (cn _) hG (by simp[E2,h.ar]) ?_ ?_ ?_ ?_ ?_ aBD ?_ ?_
     · refine h.frame.trans ja ?_;rintro g hg ⟨m,x,h1,h2⟩;obtain⟨n,h3,h4⟩:=mU h1;rcases(h.names n x g h4 h2).2.1 with h5|h5
       · exact h5
       · omega
     · intro n x hx;rcases(yY n x hx).2 with⟨h1,h2,_⟩| ⟨_,h1⟩
       · exact(hF n h1 h2).2.2.1
       · exact h.cO n x h1
     · intro n x g hx hg;rcases(yY n x hx).2 with⟨_,_,h1⟩| ⟨_,h1⟩
       · obtain⟨h2,h3⟩:=fj.names _ x g h1 hg;refine⟨h2,?_⟩;rcases h3 with⟨m,y,h4,h5⟩|h3
         · obtain⟨k,h6,h7⟩:=mU h4;exact(h.names k y g h7 h5).2
         · have:=h.frame.size;exact⟨.inr om,fun hM=>by have:=h.eB g hM;omega⟩
       · obtain⟨h2,h3⟩:=h.names n x g h1 hg;exact⟨oo h2 ja.size,h3⟩
     · intro n m x y g hx hy hg1 hg2;have cross:∀n m x y,d≤n→n<d+8→E'.N (ι.length+(n-d))=some x→m∉ef.ar→E.N m=some y→x.g=some g→y.g=some g→n=m:=by
         intro n m x y h1 h2 h3 jD h4 h5 h6;rcases(fj.names _ x g h3 h5).2 with⟨k,z,h7,h8⟩|h7
         · obtain⟨j,h9,h10⟩:=mU h7;have:=h.inj j m z y g h10 h4 h8 h6;subst this;rw[h10]at h4;cases h4;have:=fj.inj _ k x y g h3 (Og k j y h9 jD h10) h5 h8;have:=(dr.1 h9).1;omega
         · have:=hlt m y g h4 h6;omega
       obtain⟨ha,h1⟩:=yY n x hx;obtain⟨hb,h2⟩:=yY m y hy;rcases h1 with⟨h3,h4,h5⟩| ⟨_,h5⟩<;>rcases h2 with⟨k3,k4,k5⟩| ⟨_,k5⟩
       · have:=fj.inj _ _ x y g h5 k5 hg1 hg2;omega
       · exact cross n m x y h3 h4 h5 hb k5 hg1 hg2
       · exact(cross m n y x k3 k4 k5 ha h5 hg2 hg1).symm
       · exact h.inj n m x y g h5 k5 hg1 hg2
     · intro m hm;simp only[E2];split
       · exact .inl rfl
       · rw[aC (fun hd=>by have:=(hF m hd.1 hd.2).2.2.2;omega)];exact .inr rfl
     · intro n x g hx hg ew hul;refine ja.block g (hlt n x g hx hg) ?_;rintro⟨m,y,h1,h2⟩;obtain⟨k,h3,h4⟩:=mU h1;have:=h.inj k n y x g h4 hx h2 hg;subst this;have aBF:k∉ef.ar:=fun hk=>ew (zf _ hk)
       have h5:H'.lookup m≠none:=fun h5=>aBF ((hgι m k h3).2 h5)
       obtain⟨b,hb⟩:=Option.ne_none_iff_exists'.1 h5;have h6:=VU (ρ:=o9 ι d) hb;have lA:=(dr.1 h3).1;rw[show o9 ι d m=k by unfold o9;rw[ay lA,h3];rfl,←Hn]at h6;exact h6 hul
     · intro n b hl;rw[Hn]at hl;obtain⟨m,b',h1,rfl,rfl⟩:=QN hl;obtain⟨h2,h3⟩:=Od m b' h1;refine .inr (RB.cR (vM.imp hst fun hb=>hb.2 m b' h1) (fun x hx=>Oi m x h2 (fun _=>by rw[h1];simp) hx) (fun k hk=> ⟨by rw[fj.ar];simp,fun x hx=>Oi k x (h3 k hk) (Of m b' h1 k hk) hx⟩) (Ho m b' h1))
   ·
     have key:∀c v,c.bare=true∨(∀n∈L,n∈ef.ar)→(∀n∈c.names,n<ι.length+8∧(n<ι.length→H'.lookup n≠none))→RC (pn X.M E ι L) E' w' c v→RC X.M E2 w' (c.cR (o9 ι d)) v:=by
       intro c v hb hn hcc;exact RC.cR (hb.symm.imp hst id) (fun n cQ=> ⟨by rw[fj.ar];simp,fun x hx=>Oi n x (hn n cQ).1 (hn n cQ).2 hx⟩) hcc
     have aaj:∀(x:V1) v,x.bare=true∨(∀n∈L,n∈ef.ar)→(∀n∈x.names,n<ι.length+8∧(n<ι.length→H'.lookup n≠none))→db (pn X.M E ι L) E' w' x v→db X.M E2 w' (x.on (C.cR (o9 ι d))) v:=by
       intro x v hb hn hcc
       cases x with
       |c c=>exact key c v hb hn hcc
       | agg cs=>
         obtain⟨us,h1,h2,h3⟩:=hcc;refine⟨us,h1,by simp[h2],fun i c hi=> ?_⟩;simp only[bV,aT]at hi;obtain⟨c',hc',rfl⟩:=hi;obtain⟨u,h4,h5,h6⟩:=h3 i c' hc';have hm:=dn hc';refine⟨u,h4,key c' u (hb.imp (fun hb=> ?_) id) (fun n cQ=>hn n (th.2 ⟨c',hm,cQ⟩)) h5,h6⟩;simp only[V1.bare,bC]at hb;exact hb c' hm
     have hb0:r.bare=true∨(∀n∈L,n∈ef.ar):=vM.symm.imp (·.1) id;have jE:∀n∈r.names,n<ι.length+8∧(n<ι.length→H'.lookup n≠none):=fun n hn=> ⟨Cr n hn,Oe n hn⟩
     cases r with
     |v x=>exact aaj x u hb0 jE hrv
     | aj xs=>
       obtain⟨us,h1,h2,h3⟩:=hrv;refine⟨us,h1,by simp[h2],fun i c hi=> ?_⟩;simp only[bV,aT]at hi;obtain⟨c',hc',rfl⟩:=hi;obtain⟨u',h4,h5⟩:=h3 i c' hc';have hm:=dn hc';refine⟨u',h4,aaj c' u' (hb0.imp (fun hb=> ?_) id) (fun n cQ=>jE n (th.2 ⟨c',hm,cQ⟩)) h5⟩;simp only[V.bare,bC]at hb;exact hb c' hm
 · rintro g (hg| ⟨n,x,h1,h2,_⟩)
   · have:=h.eB g hg;have:=h.frame.size;omega
   · exact(h.names n x g h1 h2).1
 · intro n x hx;obtain⟨k,h1,_⟩:=mU hx;have:=(dr.1 h1).1;omega
 · intro n x g hx hg;obtain⟨k,h1,h2⟩:=mU hx;obtain⟨h3,_,h4⟩:=h.names k x g h2 hg;refine⟨h3,?_⟩;rintro(h5| ⟨m,y,h5,h6,h7,_⟩)
   · exact h4 h5
   · have:=h.inj k m x y g h2 h5 hg h6;subst this;exact h7 (dn h1)
 · intro n m x y g hx hy hg1 hg2;obtain⟨k,h1,h2⟩:=mU hx;obtain⟨j,h3,h4⟩:=mU hy;have:=h.inj k j x y g h2 h4 hg1 hg2;subst this;exact hιinj n m k h1 h3
 · intro i b' hi;obtain⟨n,b,h1,h2,h3⟩:=Hl i b' hi;exact acD h hι hL h1 h2 h3
 · rw[hx1,kf]
 · intro i x' hi;obtain⟨x,h1,h2⟩:=gS i x' hi;obtain⟨u,h3,h4⟩:=hx2 i x h1;exact⟨u,h3,aka h hι hL h2 h4⟩
end
def fS (z:Int):List PV→Bool
 | .sc (.int .u64 y)::_=>z==y
 |_=>false
def nU (z:Int) (ps:List PV):List (List PV)→List (List PV)
 |[]=> [.sc (.int .u64 z)::ps]
 |r::es=>if fS z r then(.sc (.int .u64 z)::ps)::es else r::nU z ps es
def nP (z:Int):List (List PV)→List (List PV)
 |[]=> []
 |r::es=>if fS z r then es else r::nP z es
def hZ (z:Int):List (List PV)→Option (List PV)
 |[]=>none
 |r::es=>if fS z r then some r.tail else hZ z es
theorem mL.key {B w m r} (h:mL B w m r):∃y ps,r= .sc (.int .u64 y)::ps∧m.key= .int .u64 y:=by
 match r,h with
 | .sc (.int .u64 y)::ps,h=>exact⟨y,ps,rfl,h.1⟩
theorem YI {B w} (z):∀{en es} (i:Nat),gY B w en es→
  Instr.findNow (.int .u64) (.int .u64 z) en i=some ((es.findIdx? (fS z)).bind fun j=> (en[j]?).map fun m=> (i+j,m.val))
 |[],[],i,_=>rfl
 |m::en,r::es,i,⟨h1,h2⟩=>by
  obtain⟨y,ps,rfl,hy⟩:=h1.key;simp only[Instr.findNow,hy,Instr.sameNow,if_true,Pr,fS];by_cases hz:z=y
  · subst hz;simp
  · have:(z==y)=false:=by simpa using hz
    simp only[this,pO,if_false];rw[YI z (i+1) h2]
    cases hf:es.findIdx? (fS z)with
    |none=>simp
    |some j=>simp[CQ,Nat.add_comm 1 j]
theorem KM {P kt} (hk:P.underlying kt=some (.int .u64)) {B w en es} (h:gY B w en es) (z) (w'):
  (Instr.findKey kt (.int .u64 z) en).run P w'= .ok ((es.findIdx? (fS z)).bind fun j=> (en[j]?).map fun m=> (j,m.val)) w':=by
 have:=YI z 0 h;simp only[pP]at this;simp[Instr.findKey,run_underlying hk,this]
theorem Q3 {B w z ps m v} (hm:mL B w m (.sc (.int .u64 z)::ps)) (hv:∀e:MapEntry,mL B w {e with key:= .int .u64 z,val:=v} (.sc (.int .u64 z)::ps)):∀{en es},gY B w en es→
  (es.findIdx? (fS z)=none→gY B w (en++ [m]) (nU z ps es))∧
  ∀j,es.findIdx? (fS z)=some j→gY B w (en.modify j fun e=> {e with key:= .int .u64 z,val:=v}) (nU z ps es)
 |[],[],_=> ⟨fun _=> ⟨hm,trivial⟩,fun j hj=>by simp at hj⟩
 |e::en,r::es,⟨h1,h2⟩=>by
  simp only[Pr,nU];by_cases hk:fS z r=true
  · simp only[hk,if_true];refine⟨fun h=>by simp at h,fun j hj=> ?_⟩;cases hj;exact⟨hv e,h2⟩
  · simp only[hk,if_false];obtain⟨k1,k2⟩:=Q3 hm hv h2;refine⟨fun h=> ?_,fun j hj=> ?_⟩
    · exact⟨h1,k1 (by simpa using h)⟩
    · cases hf:es.findIdx? (fS z)with
      |none=>rw[hf]at hj;simp at hj
      |some j'=>
       rw[hf]at hj;simp at hj;subst hj;exact⟨h1,k2 j' hf⟩
theorem WT {B w z}:∀{en es},gY B w en es→
  (es.findIdx? (fS z)=none→nP z es=es)∧∀j,es.findIdx? (fS z)=some j→gY B w (en.eraseIdx j) (nP z es)
 |[],[],_=> ⟨fun _=>rfl,fun j hj=>by simp at hj⟩
 |e::en,r::es,⟨h1,h2⟩=>by
  simp only[Pr,nP];by_cases hk:fS z r=true
  · simp only[hk,if_true];refine⟨fun h=>by simp at h,fun j hj=> ?_⟩;cases hj;exact h2
  · simp only[hk,if_false];obtain⟨k1,k2⟩:=WT (z:=z) h2;refine⟨fun h=> ?_,fun j hj=> ?_⟩
    · rw[aC (by simp),k1 (by simpa using h)]
    · cases hf:es.findIdx? (fS z)with
      |none=>rw[hf]at hj;simp at hj
      |some j'=>
       rw[hf]at hj;simp at hj;subst hj;rw[aC (by simp)];exact⟨h1,k2 j' hf⟩
theorem Bb {B w z}:∀{en es},gY B w en es→
  (es.findIdx? (fS z)=none→hZ z es=none)∧∀j,es.findIdx? (fS z)=some j→∃m ps,en[j]? =some m∧hZ z es=some ps∧mL B w m (.sc (.int .u64 z)::ps)
 |[],[],_=> ⟨fun _=>rfl,fun j hj=>by simp at hj⟩
 |e::en,r::es,⟨h1,h2⟩=>by
  simp only[Pr,hZ];by_cases hk:fS z r=true
  · simp only[hk,if_true];refine⟨fun h=>by simp at h,fun j hj=> ?_⟩;cases hj;obtain⟨y,ps,rfl,hy⟩:=h1.key;obtain rfl:z=y:=by simpa[fS]using hk
    exact⟨e,ps,rfl,rfl,h1⟩
  · simp only[hk,if_false];obtain⟨k1,k2⟩:=Bb (z:=z) h2;refine⟨fun h=> ?_,fun j hj=> ?_⟩
    · rw[aC (by simp),k1 (by simpa using h)]
    · cases hf:es.findIdx? (fS z)with
      |none=>rw[hf]at hj;simp at hj
      |some j'=>
       rw[hf]at hj;simp at hj;subst hj;rw[aC (by simp)];simpa using k2 j' hf
def World.lp (w:a7) (g:Nat) (o:Obj):a7:={w with heap:=w.heap.setIfInBounds g o}
theorem JG {P kt} (hk:P.underlying kt=some (.int .u64)) (b z) (w:a7):(Instr.checkKey b 10000 kt (.int .u64 z)).run P w= .ok () w:=by
 unfold Instr.checkKey;simp[run_underlying hk]
theorem ajb {P} {t kt vt} (ht:P.underlying t=some (.map kt vt)) (hk:P.underlying kt=some (.int .u64)) {w:a7} {g en clock} (hg:w.heap[g]? =some (.map en clock)) {B es} (h:gY B w en.toList es) (z) {v ps}
  (hv:∀e:MapEntry,mL B w {e with key:= .int .u64 z,val:=v} (.sc (.int .u64 z)::ps)):
  ∃n9 clock',(Instr.mapUpdate t (.map (some g)) (.int .u64 z) v).run P w= .ok () (World.lp w g (.map n9 clock'))∧gY B w n9.toList (nU z ps es):=by
 have h1:=KM hk h z w;have h2:=JG hk false z w;have h3:=Q3 (m:={key:= .int .u64 z,val:=v,born:=clock}) (hv {key:= .int .u64 z,val:=v,born:=clock}) hv h
 cases hf:es.findIdx? (fS z)with
 |none=>
  rw[hf]at h1;refine⟨en.push {key:= .int .u64 z,val:=v,born:=clock},clock+1,?_,by simpa using h3.1 hf⟩;simp[Instr.mapUpdate,run_underlying ht,MapKept.run_getObj_map hg,h2,h1,MapKept.run_setObj_map _ hg,World.lp]
 | some j=>
  obtain⟨m,Cs,k1,_,k2⟩:=(Bb (z:=z) h).2 j hf;rw[hf]at h1;simp only[rD,k1,aV]at h1;have Hr:en[j]? =some m:=by simpa using k1
  have aBG:(Instr.keyThatStays (((en[j]?).map (·.key)).getD (.int .u64 z)) (.int .u64 z)).run P w= .ok (.int .u64 z) w:=by
   rw[Hr];simp[Instr.keyThatStays,k2.1,Instr.sameBits]
  refine⟨en.modify j fun e=> {e with key:= .int .u64 z,val:=v},clock,?_,by simpa using h3.2 j hf⟩;simp only[Instr.mapUpdate,Sem.run_bind,run_underlying ht,Result.andThen_ok,MapKept.run_getObj_map hg,h2,h1,aBG,MapKept.run_setObj_map _ hg,World.lp]
theorem amC {P} {t kt vt} (ht:P.underlying t=some (.map kt vt)) (hk:P.underlying kt=some (.int .u64)) {w:a7} {g en clock} (hg:w.heap[g]? =some (.map en clock)) {B es} (h:gY B w en.toList es) (z ts ty):
  ∃n9 clock',(Builtin.delete_ (t::ts).toArray ty #[.map (some g),.int .u64 z]).run P w= .ok (.tuple #[]) (World.lp w g (.map n9 clock'))∧gY B w n9.toList (nP z es):=by
 have h1:=KM hk h z w;have h2:=JG hk en.isEmpty z w;have h3:=WT (z:=z) h
 cases hf:es.findIdx? (fS z)with
 |none=>
  rw[hf]at h1;refine⟨en,clock,?_,by rw[h3.1 hf];exact h⟩;simp[Builtin.delete_,run_underlying ht,MapKept.run_getObj_map hg,h2,h1,MapKept.run_setObj_map _ hg,World.lp]
 |some j=>
  obtain⟨m,Cs,k1,_,k2⟩:=(Bb (z:=z) h).2 j hf;rw[hf]at h1;simp only[rD,k1,aV]at h1;refine⟨en.eraseIdxIfInBounds j,clock,?_,?_⟩
  · simp[Builtin.delete_,run_underlying ht,MapKept.run_getObj_map hg,h2,h1,MapKept.run_setObj_map _ hg,World.lp]
  · have hl:j<en.size:=by have:=(dr.1 k1).1;simpa using this
    have:(en.eraseIdxIfInBounds j).toList=en.toList.eraseIdx j:=by rw[Array.eraseIdxIfInBounds,dif_pos hl];simp
    rw[this];exact h3.2 j hf
theorem ahS {P} {t kt vt} (ht:P.underlying t=some (.map kt vt)) (hk:P.underlying kt=some (.int .u64)) {w:a7} {g en clock} (hg:w.heap[g]? =some (.map en clock)) {B es} (h:gY B w en.toList es) (z) {i zv} (hi:P.info? vt=some i) (hz:i.zero=some zv) (c:Bool):
  ∃v,(Instr.lookup t (.map (some g)) (.int .u64 z) c).run P w= .ok (if c then .tuple #[v,.bool (hZ z es).isSome]else v) w∧
   ((hZ z es=none∧v=zv)∨∃m ps,hZ z es=some ps∧mL B w m (.sc (.int .u64 z)::ps)∧v=m.val):=by
 have h1:=KM hk h z w;have h2:=JG hk en.isEmpty z w
 cases hf:es.findIdx? (fS z)with
 |none=>
  rw[hf]at h1;have h3:=(Bb (z:=z) h).1 hf;refine⟨zv,?_,.inl ⟨h3,rfl⟩⟩;simp[Instr.lookup,run_underlying ht,MapKept.run_getObj_map hg,h2,h1,zeroValue,typeInfo,hi,hz,h3]
 |some j=>
  obtain⟨m,Cs,k1,k3,k2⟩:=(Bb (z:=z) h).2 j hf;rw[hf]at h1;simp only[rD,k1,aV]at h1;refine⟨m.val,?_,.inr ⟨m,Cs,k3,k2,rfl⟩⟩;simp[Instr.lookup,run_underlying ht,MapKept.run_getObj_map hg,h2,h1,k3]
section
variable {X:Fx} {E:Env} {st:av} {a:Act} {w:a7}
theorem Sm {w} {g k} {o} (h:k≠g):(World.lp w g o).heap[k]? =w.heap[k]?:=by
 simp only[World.lp,abA];grind
theorem SF {w} {g} {o o'} (h:w.heap[g]? =some o'):(World.lp w g o).heap[g]? =some o:=by
 grind[World.lp]
theorem Rel.Lb (h:Rel X E st a w) {n} {x} (hN:E.N n=some x) {g} (ig:x.g=some g) {w'} (lB:w'.os=w.os) (Oj:w'.tape=w.tape) (hout:w'.output=w.output)
   (nZ:∀k,k≠g→w'.heap[k]? =w.heap[k]?) (hsz:w'.heap.size=w.heap.size) (b) (hb:gx X.M E E w w'→RB X.P X.M E w' n b):
   gx X.M E E w w'∧Rel X E (st.df ⟨[(n,b)],[]⟩) a w':=by
 obtain⟨hx1,hx2,hx3⟩:=h.names n x g hN ig;have hG:gx X.M E E w w':={
   cell:=fun k o u k1 k2=>by
    have:k≠g:=by rintro rfl;exact k2 (.inr ⟨n,x,hN,ig⟩)
    exact⟨(World.cell?_of_block (w:=w) (a:=⟨k,o,none⟩) (nZ k this)).trans k1,k2⟩
   name:=fun _ _ h=> .inr h
   ar:=fun _ h=>h}
 refine⟨hG,h.step ⟨[(n,b)],[]⟩ (nx:=st.next) (cn _) hG (by simp[h.ar]) ?_ h.cO (fun n x g hx=>by rw[hsz];exact h.names n x g hx) h.inj (fun _ _=> .inr rfl) (by simp) ?_ ?_⟩
 · refine h.frame.trans (K':=fun k=>k=g) ⟨lB,Oj,hout,om,fun k _ hk=>nZ k hk⟩ ?_;grind
 · intro m y k hy hk _ hl;refine nZ _ fun he=> ?_
   subst he;have:=h.inj m n y x k hy hN hk ig;simp_all
 grind
theorem YU {cs ps} (h:lK cs=some ps):ps.length=cs.length∧∀(j:Nat) (p:PV),ps[j]? =some p→∃c:C,cs[j]? =some c∧c.pv=some p:=nX h
noncomputable def xP (P:bB) (st:av) (t:a6) (m k x:bD):Option g_:=
 match st.arg m with
 | some (.v (.c (.mp n)))=>match P.underlying t,st.heap.lookup n,st.arg k,st.arg x with
  |some (.map kt _),some (.map es),some (.v (.c (.p (.sc (.int .u64 z))))),some (.v (.agg cs))=>match P.underlying kt,lK cs with
   |some (.int .u64),some ps=>some ⟨[(n,.map (nU z ps es))],[]⟩
   |_,_=>none
  |_,_,_,_=>none
 |_=>none
theorem amH (h:Rel X E st a w) {t} {m k x} {ef} (he:xP X.P st t m k x=some ef):
   ∃w',(Instr.mapUpdate t (a.eval m) (a.eval k) (a.eval x)).run X.P w= .ok () w'∧Rel X E (st.df ef) a w':=by
 unfold xP at he;split at he
 · rename_i n hm;have hn:=h.gL hm (n:=n) (by simp[C.names]);obtain⟨y,h1,g,hg,h2⟩:=bO.get (h.bR hm).1 hn;split at he
   · rename_i kt vt es z cs ht hl hk hx;have k1:=RP.dy (h.bR hk).1;split at he
     · rename_i ps Ct jG;cases he;obtain⟨x',g',en,clock,j1,j2,j3,j4⟩:=h.row (by rw[←h.ar];exact hn) hl;rw[h1]at j1;cases j1;rw[hg]at j2;cases j2;obtain⟨us,q1,q2,q3⟩:=(h.arg hx).1;obtain⟨p1,p2⟩:=YU jG;have aBH:∀e:MapEntry,mL (bad X.M E) w {e with key:= .int .u64 z,val:=a.eval x} (.sc (.int .u64 z)::ps):=fun e=>
        ⟨rfl,us,q1,by rw[q2,p1],fun j p hj=>by
         obtain⟨c,c1,c2⟩:=p2 j p hj;obtain⟨u,u1,u2,u3⟩:=q3 j c c1;exact⟨u,u1,u2.pv c2,u3⟩⟩
       obtain⟨n9,clock',hr,bZ⟩:=ajb ht Ct j3 j4 z aBH;refine⟨_,by rw[h2,k1];exact hr,(h.Lb h1 hg (w':=World.lp w g (.map n9 clock')) rfl rfl rfl (fun k hk=>Sm hk) (by simp[World.lp]) (.map (nU z ps es)) (fun hG=> ?_)).2⟩;exact⟨y,g,n9,clock',h1,hg,SF j3,bZ.trans hG.cell⟩
     · cases he
   · cases he
 · cases he
noncomputable def ye (P:bB) (st:av) (t:a6) (m k:bD):Option g_:=
 match st.arg m with
 | some (.v (.c (.mp n)))=>match P.underlying t,st.heap.lookup n,st.arg k with
  |some (.map kt _),some (.map es),some (.v (.c (.p (.sc (.int .u64 z)))))=>match P.underlying kt with
   |some (.int .u64)=>some ⟨[(n,.map (nP z es))],[]⟩
   |_=>none
  |_,_,_=>none
 |_=>none
theorem axk (h:Rel X E st a w) {t} {ts} {ty} {m k} {ef} (he:ye X.P st t m k=some ef):
   ∃w',(Builtin.delete_ (t::ts).toArray ty #[a.eval m,a.eval k]).run X.P w= .ok (.tuple #[]) w'∧Rel X E (st.df ef) a w':=by
 unfold ye at he;split at he
 · rename_i n hm;have hn:=h.gL hm (n:=n) (by simp[C.names]);obtain⟨y,h1,g,hg,h2⟩:=bO.get (h.bR hm).1 hn;split at he
   · rename_i kt vt es z ht hl hk;have k1:=RP.dy (h.bR hk).1;split at he
     · rename_i Ct;cases he;obtain⟨x',g',en,clock,j1,j2,j3,j4⟩:=h.row (by rw[←h.ar];exact hn) hl;rw[h1]at j1;cases j1;rw[hg]at j2;cases j2;obtain⟨n9,clock',hr,bZ⟩:=amC ht Ct j3 j4 z ts ty;refine⟨_,by rw[h2,k1];exact hr,(h.Lb h1 hg (w':=World.lp w g (.map n9 clock')) rfl rfl rfl (fun k hk=>Sm hk) (by simp[World.lp]) (.map (nP z es)) (fun hG=> ?_)).2⟩;exact⟨y,g,n9,clock',h1,hg,SF j3,bZ.trans hG.cell⟩
     · cases he
   · cases he
 · cases he
noncomputable def yQ (P:bB) (st:av) (t:a6) (m k:bD) (ok:Bool):Option V:=
 match st.arg m with
 | some (.v (.c (.mp n)))=>match P.underlying t,st.heap.lookup n,st.arg k with
  | some (.map kt vt),some (.map es),some (.v (.c (.p (.sc (.int .u64 z)))))=>match P.underlying kt,(P.info? vt).bind (·.zero),(pz P vt).bind lK with
   |some (.int .u64),some (.agg _),some zs=>
    let r:V1:= .agg (((hZ z es).getD zs).map .p)
    some (if ok then .aj [r,.c (.p (.sc (.bool (hZ z es).isSome)))]else .v r)
   |_,_,_=>none
  |_,_,_=>none
 |_=>none
theorem axi (h:Rel X E st a w) {t m k ok v} (he:yQ X.P st t m k ok=some v):
   ∃u,(Instr.lookup t (a.eval m) (a.eval k) ok).run X.P w= .ok u w∧RV X.M E w v u:=by
 unfold yQ at he;split at he
 · rename_i n hm;have hn:=h.gL hm (n:=n) (by simp[C.names]);obtain⟨y,h1,g,hg,h2⟩:=bO.get (h.bR hm).1 hn;split at he
   · rename_i kt vt es z ht hl hk;have k1:=RP.dy (h.bR hk).1;split at he
     · rename_i uz zs Ct hz hzs;cases he;obtain⟨x',g',en,clock,j1,j2,j3,j4⟩:=h.row (by rw[←h.ar];exact hn) hl;rw[h1]at j1;cases j1;rw[hg]at j2;cases j2;obtain⟨cs,hcs,hzt⟩:=iu.1 hzs;obtain⟨i,zv,hi,hz',jm⟩:=xu (M:=X.M) (E:=E) (w:=w) hcs;rw[hi]at hz;simp only[rD,hz',jd]at hz;subst hz;obtain⟨p1,p2⟩:=YU hzt;obtain⟨v,hr,hv⟩:=ahS ht Ct j3 j4 z hi hz' ok;have hV:db X.M E w (.agg (((hZ z es).getD zs).map .p)) v:=by
        rcases hv with⟨q1,rfl⟩| ⟨m',ps,q1,q2,rfl⟩
        · rw[q1];refine⟨uz,rfl,?_,fun j c hj=> ?_⟩
          · have:=jm.1;simp only[Value.cells]at this;simp[this,p1]
          · simp only[Option.getD_none,bV,aT]at hj;obtain⟨p,hp,rfl⟩:=hj;obtain⟨c,c1,c2⟩:=p2 j p hp;obtain⟨u,u1,u2,u3⟩:=jm.2 j c c1;exact⟨u,u1,u2.pv c2,u3⟩
        · rw[q1];obtain⟨_,us,u1,u2,u3⟩:=q2;refine⟨us,u1,by simp[u2],fun j c hj=> ?_⟩;simp only[fx,bV,aT]at hj;obtain⟨p,hp,rfl⟩:=hj;exact u3 j p hp
       refine⟨_,by rw[h2,k1];exact hr,?_⟩
       cases ok with
       |false=>exact hV
       |true=>
        refine⟨_,rfl,rfl,fun j x hj=> ?_⟩
        match j,hj with
        |0,hj=>cases hj;exact⟨_,rfl,hV⟩
        |1,hj=>cases hj;exact⟨_,rfl,.sc rfl⟩
        |j+2,hj=>simp at hj
     · cases he
   · cases he
 · cases he
noncomputable def sv (P:bB) (st:av) (s d:a6) (x:bD):Option (V×g_):=
 match st.arg x with
 | some (.v (.c (.own n)))=>match st.heap.lookup n,P.underlying s with
  |some (.row e rows),some (.slice e')=>match P.underlying e' with
   |some (.int .u8)=>if s=d∧rows≠ []then some (.c (.own n),⟨[(n,.row e rows)],[]⟩)else none
   |_=>none
  |_,_=>none
 |_=>none
theorem acH {w:a7} {g} {cur} {e} {fz} (hg:w.heap[g]? =some (.cells cur e fz)) (hf:mI cur.size fz):
   ∃yZ,(w.freeze ⟨g,cur.size,none⟩ 1).heap[g]? =some (.cells cur e yZ)∧mI cur.size yZ:=by
 obtain⟨lo,hi⟩:=fz;refine⟨if lo==hi then(cur.size,cur.size+1)else(min lo cur.size,max hi (cur.size+1)),?_,?_⟩
 · simp only[World.freeze,Nat.one_ne_zero,if_false,Ps,hg];simp
 · split
   · exact .inr (cn _)
   · rename_i hne;rcases hf with h|h
     · simp_all
     · exact .inr om
theorem aem {w:a7} {g k o} (h:k≠g):(w.freeze ⟨g,o,none⟩ 1).heap[k]? =w.heap[k]?:=by
 simp only[World.freeze,Nat.one_ne_zero,if_false,Ps];grind
theorem awN (h:Rel X E st a w) {s d} {x} {v} {ef} (he:sv X.P st s d x=some (v,ef)):
   ∃u w',(convert s d (a.eval x)).run X.P w= .ok u w'∧Rel X E (st.df ef) a w'∧RV X.M E w' v u:=by
 unfold sv at he;split at he
 · rename_i n hx;have hn:=h.gL hx (n:=n) (by simp[C.names]);have hh:=(h.bR hx).1;obtain⟨y,h1,h2⟩:=bO.get hh hn;split at he
   · rename_i e rows e' hl hs;split at he
     · rename_i Ol;split at he
       · rename_i hc;cases he;obtain⟨rfl,h0⟩:=hc;obtain⟨x',cur,fz,j1,bX,j2,j3,j4,j5,j6,j7,j8,j9,vL,Cq⟩:=h.row (by rw[←h.ar];exact hn) hl;rw[h1]at j1;cases j1
         cases hg:y.g with
         |none=>
          simp_all
         | some g=>
          have hblk:=j2 g hg;obtain⟨yZ,k1,k2⟩:=acH hblk bX;have hT:=h.Lb h1 hg (w':=w.freeze ⟨g,cur.size,none⟩ 1) (by rfl) (by rfl) (by rfl) (fun k hk=>aem hk) (by simp[World.freeze]) (.row e rows) (fun hG=>by
           refine⟨y,cur,yZ,h1,k2,fun g' hg'=> ?_,j3,j4,j5,j6,j7,j8,j9,vL,fun i r j p hi hj=> ?_⟩
           · simp_all
           · obtain⟨u,q1,q2⟩:=Cq i r j p hi hj;exact⟨u,q1,q2.goes hG⟩)
          refine⟨a.eval x,_,?_,hT.2,.inr ⟨y,h1,h2⟩⟩;rw[h2,hg];have n_:w.shape? g=some (e,cur.size):=by simp[World.shape?,hblk]
          simp[convert,run_underlying hs,run_underlying Ol,markStringish,n_]
       · cases he
     · cases he
   · cases he
 · cases he
noncomputable def sS (P:bB) (st:av) (t:a6) (s x:bD):Option (V×g_):=
 match st.arg s,st.arg x with
 | some (.v (.c (.sub m 0 len))),some (.v (.c cx))=>match st.heap.lookup m,st.view cx,eO P t with
  |some (.row e' rows),some bF,some e=>match jP P e with
   |some (n,_)=>if e'=e∧bu n bF=true∧len+bF.length≤rows.length then some (.c (.sub m 0 (len+bF.length)),⟨[(m,.row e (rows.take len++bF++rows.drop (len+bF.length)))],[]⟩)else none
   |none=>none
  |_,_,_=>none
 |_,_=>none
theorem als (h:Rel X E st a w) {t ty} {s x} {v} {ef} (he:sS X.P st t s x=some (v,ef)):
   ∃u w',(Builtin.append_ #[t,t] ty #[a.eval s,a.eval x]).run X.P w= .ok u w'∧Rel X E (st.df ef) a w'∧RV X.M E w' v u:=by
 unfold sS at he;split at he
 · rename_i m len cx hs hx;have hn:=h.gL hs (n:=m) (by simp[C.names]);obtain⟨z0,ob,hle,A,eM,hA⟩:=bO.get (h.bR hs).1 hn;have hA:=hA (.inr rfl);simp only[Nat.zero_mul,Nat.sub_zero]at hA eM;split at he
   · rename_i e' rows bF e hl hv ht;obtain⟨hu,kP⟩:=pq ht;split at he
     · rename_i n b fw;obtain⟨i,zz,hi,hzz,hzs,dh,c_,hib,f_⟩:=wQ fw;split at he
       · rename_i hc;cases he;obtain⟨rfl,hR,hroom⟩:=hc;rw[pa]at hR;obtain⟨z,cur,fz,k1,bX,k2,k3,k4,k5,k6,k7,k8,k9,i_,ly⟩:=h.row (by rw[←h.ar];exact hn) hl;rw[ob]at k1;cases k1;have hsz:z0.sz=n:=by rw[k7,f_]
         have hlt:=h.cO m z0 ob;rcases(h.Fm hx hv).src hR with⟨rfl,B,cap,gb⟩| ⟨gs,os,cap,news,gb,hne,gC,hcell,lz,hval⟩
         ·
           have pD:=h.step ⟨[(m,.row e' rows)],[]⟩ (E':=E) (w':=w) (nx:=st.next) (cn _) ⟨fun _ _ _ h1 h2=> ⟨h1,h2⟩,fun _ _ h=> .inr h,fun _ h=>h⟩ (by simp[h.ar]) h.frame h.cO h.names h.inj (fun _ _=> .inr rfl) (by simp) (fun _ _ _ _ _ _ _=>rfl) (fun k b hb=>by
             simp only[gW,oq]at hb;split at hb
             · rename_i heq;simp at heq;subst heq;cases hb;exact .inr (h.row (by rw[←h.ar];exact hn) hl)
             · cases hb)
           refine⟨.slice A len z0.cap,w,?_,?_,?_⟩
           · rw[eM,gb];have gF:len≤z0.cap:=om
             cases A with
             |none=>cases B<;>simp[Builtin.append_,run_underlying hu,sizeOf,typeInfo,hi,Builtin.lenOf,Builtin.firstCells,loadCells,loadCellsFrom,gF]
             |some A=>cases B<;>simp[Builtin.append_,run_underlying hu,sizeOf,typeInfo,hi,Builtin.lenOf,Builtin.firstCells,loadCells,loadCellsFrom,gF,storeCells]
           · have e1:rows.take len++ []++rows.drop (len+([]:List (List PV)).length)=rows:=by simp
             rw[e1];exact pD
           · refine .inr ⟨z0,ob,by simpa using hle,A,by simp,fun _=>by simpa using hA⟩
         · cases hg : z0.g with
           |none=>simp_all
           | some g =>
             rw[hg]at hA;subst hA;have hblk:=k2 g hg;have hmul:len*n+bF.length*n≤cur.size:=by
               rw[k8,hsz,←kl];exact fy _ om
             have hrun:=Qq (P:=X.P) w t ty e' i hu hi g len z0.cap cur bX hblk ⟨gs,os,none⟩ bF.length cap news (by simp_all) hcell lz om (by simp_all);rw[c_]at hrun;have fi:(cur.toList.take (len*n)++news++cur.toList.drop (len*n+news.length)).toArray.size=cur.size:=by simp[gC];omega
             have iJ:eI z0.sz (rows.take len++bF++rows.drop (len+bF.length)):=((k9.take _).app (by rw[hsz];exact hR)).app (fun r hr=>k9 r (wh hr));have hw:=(h.write ob hg hblk ((cur.toList.take (len*n)++news++cur.toList.drop (len*n+news.length)).toArray) [] (by simp) (.row e' (rows.take len++bF++rows.drop (len+bF.length))) (fun hG ic _=>by
               refine⟨z0,_,fz,by exact ob,by rw[fi];exact bX,fun g' hg'=>by simp_all,by simp;omega,k4,k5,k6,k7,by rw[fi,k8],iJ,i_,fun i r j p hi hj=> ?_⟩;rw[gC]at hG;have hjz:j<n:=by rw[←hsz,←iJ r (dn hi)];grind
               rw[CR,sD (by simp;omega),gC,hsz];rw[sD (l:=rows) (ys:=bF) (off:=len) (k:=i) hroom]at hi;split at hi
               · have hlt:(i-len+1)*n≤bF.length*n:=fy _ om;have e1:i*n=len*n+(i-len)*n:=by rw[←kl];congr 1;omega
                 rw[ot]at hlt;rw[ay om];obtain⟨u,q1,q2⟩:=hval _ r j p hi hj;exact⟨u,by grind,q2.goes hG⟩
               · rename_i hc;have hno:¬(len*n≤i*n+j∧i*n+j<len*n+bF.length*n):=by
                  rintro⟨q1,q2⟩;apply hc;rw[←kl]at q2;refine⟨?_,?_⟩
                  · rcases rz i len with h7|h7
                    · have:(i+1)*n≤len*n:=fy _ h7;grind
                    · exact h7
                  · rcases rz i (len+bF.length)with h7|h7
                    · exact h7
                    · have:(len+bF.length)*n≤i*n:=fy _ h7;omega
                 rw[aC hno];obtain⟨u,q1,q2⟩:=ly i r j p hi hj;rw[hsz]at q1;exact⟨u,by simpa using q1,q2.goes hG⟩)).2
             exact⟨_,_,by simp_all,hw,.inr ⟨z0,ob,om,some ⟨g,0,none⟩,rfl,fun _=>by rw[hg];simp⟩⟩
       · cases he
     · cases he
   · cases he
 · cases he
noncomputable def oB (P:bB) (st:av) (d:Nat) (t t':a6) (s x:bD):Option (V×g_):=
 match eO P t,st.arg s,st.arg x,P.underlying t' with
 | some e,some (.v (.c .nil)),some (.v (.c (.p (.sc (.int .i64 n))))),some (.int _)=>match jP P e,pz P e with
  |some (_,b),some zs=>match lK zs with
   |some z=>if 0<n∧n≤9223372036854775807∧n.toNat*b≤140737488355328 then some (.c (.own d),⟨[(d,.row e (List.replicate n.toNat z))],[]⟩)else none
   |none=>none
  |_,_=>none
 |_,_,_,_=>none
theorem awU (h:Rel X E st a w) {d} (hd:E.N d=none) (fv:X.k0≤d) (ec:d<st.next) {t t' ty} {s x} {v} {ef}
   (he:oB X.P st d t t' s x=some (v,ef)):
   ∃u w' E',(Builtin.append_ #[t,t'] ty #[a.eval s,a.eval x]).run X.P w= .ok u w'∧(∀n,n≠d→E.N n=none→E'.N n=none)∧Rel X E' (st.df ef) a w'∧RV X.M E' w' v u:=by
 unfold oB at he;split at he
 · rename_i e n k ht hs hx hk;obtain⟨hu,kP⟩:=pq ht;have h3:a.eval s= .slice none 0 0:=(h.bR hs).1;have h4:=RP.dy (h.bR hx).1;split at he
   · rename_i sz b zs fw hz;obtain⟨i,z,hi,hzz,hzs,dh,c_,hib,f_⟩:=wQ fw;obtain⟨i',z',hi',sW,jm⟩:=xu (M:=X.M) (E:=E) (w:=w) hz;rw[hi]at hi';cases hi';rw[hzz]at sW;cases sW;split at he
     · rename_i zp Co;split at he
       · rename_i kc;obtain⟨h0,pF,hb⟩:=kc;cases he;obtain⟨dQ,hl2⟩:=nX Co;have hzl:zp.length=sz:=by rw[dQ,←jm.1,hzs]
         obtain⟨N,rfl⟩:∃N:Nat,n=(N:Int):=⟨n.toNat,om⟩
         simp only[fA]at hb⊢;have hm:N≤maxLen:=by simp only[maxLen];omega
         have qO:=grownCap_ge w N 0 e;have qP:=grownCap_le_maxLen w N 0 e hm;have hR:eI sz (List.replicate N zp):=fun r hr=>by simp_all
         have hf:=h.uY hd fv ec (e:=e) dh f_.symm (rows:=List.replicate N zp) hR (cap:=grownCap w N 0 e) (by simpa using qO) qP
          (us:=Builtin.zeroCells z.cells N++Builtin.zeroCells z.cells (grownCap w N 0 e-N)) (by
           simp only[CS,size_zeroCells,hzs,←kl];congr 1;omega) (fun i' r j' p h5 h6=>by
           have kg:r=zp:=(Pp.1 (dn h5)).2;subst kg;have ik:i'<N:=by grind
           have hj':j'<sz:=by grind
           obtain⟨cc,h7,h8⟩:=hl2 j' p h6;obtain⟨u',h9,h10,_⟩:=jm.2 j' cc h7;have hlt:i'*sz+j'<N*sz:=by
            have:(i'+1)*sz≤N*sz:=fy _ ik;grind
           refine⟨u',?_,RC.pv h10 h8⟩;rw[CU,ay (by rw[size_zeroCells,hzs];exact hlt)];simp only[Builtin.zeroCells,Array.getElem?_map,hzs,Array.getElem?_range,hlt,if_true,aV,jd];rw[show(i'*sz+j')%sz=j' by rw[Pn,abH,zi hj']];simp_all) (wd:=w.drew) (.inr rfl)
         refine⟨_,_,_,?_,fun k hk jC=>by grind[Env.kX],hf.1,hf.2⟩;rw[h3,h4];have hN:0<N:=om;have hw:IntKind.i64.wrap (N:Int)=(N:Int):=by
          rw[IntKind.wrap_i64];omega
         have e1:¬((N:Int)<0):=om;have e2:¬(281474976710656< (N:Int)*(i.bytes:Int)):=by
          grind
         have e3:¬(9223372036854775807< (N:Int)):=om;have e4:¬(281474976710656<Builtin.nextslicecap N 0*i.bytes):=by rw[nextslicecap_zero hN,hib];omega
         have e5:N*sz≠0:=Pt (Pu hN dh);have e6:¬N=0:=om;have e9:max (N:Int) 0=N:=om;simp[Builtin.append_,run_underlying hu,run_underlying hk,sizeOf,typeInfo,zeroValue,hi,hzz,c_,asInt,asIntOf,hw,e1,e2,e3,e4,e5,e6,e9,Question.forced,Builtin.firstCells,newRow,grownCap]
       · cases he
     · cases he
   · cases he
 · cases he
noncomputable def sI (P:bB) (st:av) (t:a6) (x:bD):Option (V×g_):=
 match st.arg x with
 | some (.v (.c (.ptr n off)))=>match kT P t,st.heap.lookup n with
  |some (bS,e),some (.box cs)=>match lK ((cs.drop off).take bS)with
   |some qs=>if da P e=1∧mH P e=true∧0<bS∧bS≤4096∧qs.length=bS then some (.c (.p (.sl (qs.map fun q=> [q]))),⟨[],[n]⟩)else none
   |none=>none
  |_,_=>none
 |_=>none
theorem aoc (h:Rel X E st a w) {t} {x} {v} {ef} (he:sI X.P st t x=some (v,ef)):
   ∃u E',(Instr.sliceAt t (a.eval x) none none none).run X.P w= .ok u w∧(∀n,E.N n=none→E'.N n=none)∧Rel X E' (st.df ef) a w∧RV X.M E' w v u:=by
 unfold sI at he;split at he
 · rename_i n off hx;have hn:=h.gL hx (n:=n) (by simp[C.names]);obtain⟨y,h1,g,hg,h2⟩:=bO.get (h.bR hx).1 hn;split at he
   · rename_i bS e cs har hl;split at he
     · rename_i qs hq;split at he
       · rename_i hc;cases he;obtain⟨hsz,vI,dh,Hs,hlen⟩:=hc;obtain⟨hua,kP⟩:=Gq har;obtain⟨x',g',cur,e',j1,j2,j3,j4,j5⟩:=h.row (by rw[←h.ar];exact hn) hl;rw[h1]at j1;cases j1;rw[hg]at j2;cases j2;have hlt:=h.cO n y h1;obtain⟨q1,q2⟩:=nX hq;have hst:h_ (bad X.M E) (bad X.M (E.drop [n])) w w:=fun k o u h1 h2=> ⟨h1,fun h=>h2 (sH h)⟩
         have lC:¬bad X.M (E.drop [n]) g:=by
           rintro(hb| ⟨m,z,k1,k2⟩)
           · exact(h.names n y g h1 hg).2.2 hb
           · obtain⟨k3,k4⟩:=mW k1;have:=h.inj m n z y g k3 h1 k2 hg;simp_all
         have hval:∀(i:Nat) (q:PV),qs[i]? =some q→∃u,cur[off+i]? =some u∧RP (bad X.M (E.drop [n])) w q u:=by
           intro i q hi;obtain⟨c,k1,k2⟩:=q2 i q hi;rw[ti]at k1;split at k1
           · rw[wi]at k1;obtain⟨u,k3,k4,_⟩:=j5 _ c k1;exact⟨u,k3,RP.trans (RC.pv k4 k2) hst⟩
           · cases k1
         refine⟨.slice (some ⟨g,off,none⟩) bS bS,E.drop [n],?_,fun m hm=>Env.kB hm,h.drop [n] (by simpa using hlt),?_⟩
         · rw[h2];have hne:¬bS=0:=om;simp[Instr.sliceAt,run_underlying hua,Instr.sliceBounds,run_sizeOf w vI,Instr.sureAddr,hne];rfl
         · have Ht:(qs.map fun q=> [q]).length=bS:=by simpa using hlen
           rw[show(Value.slice (some ⟨g,off,none⟩) bS bS)= .slice (some ⟨g,off,none⟩) (qs.map fun q=> [q]).length bS by rw[Ht]];refine .row (sz:=1) (f:=fun i _=> (cur[off+i]?).getD undef) (by grind) om (by simp only[maxLen];omega) (fun r hr=> ?_) (fun i r j p hi hj=> ?_) (fun i r j p hi hj=> ?_)
           · grind
           · simp only[bV,aT]at hi;obtain⟨q,hi,rfl⟩:=hi;obtain⟨u,k1,k2⟩:=hval i q hi;have vN:j=0:=by grind
             subst vN;refine⟨?_,lC⟩;rw[cell_of_row w g _ cur e' (0,0) j3,Po,kS,k1];rfl
           grind
       · cases he
     · cases he
   · cases he
 · cases he
end
end
end
end Go.Proofs.YtndegphojkiblaaGreatDoor
