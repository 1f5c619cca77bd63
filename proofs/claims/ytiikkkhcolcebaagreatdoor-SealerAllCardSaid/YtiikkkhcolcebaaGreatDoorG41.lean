/- A part. -/
import Derived.Test.YtiikkkhcolcebaaGreatDoorG39
import Derived.Test.YtiikkkhcolcebaaGreatDoorG40
set_option linter.all false
set_option maxHeartbeats 4000000
set_option maxRecDepth 100000
namespace Go.Proofs.YtiikkkhcolcebaaGreatDoor
noncomputable section
section
open Go.RowKit Pl AI
attribute [local irreducible] bl.wp
structure dG(gs:List Ge):Prop where
 n1:1<=gs.length
 n8:gs.length<=8
 ok:∀(i:Nat)(h:i<gs.length),fp gs[i]/\gs[i].n=i/\(gs[i].mode=1↔i=gs.length-1)
def gR(e:Ge):List PV:=wC e.gn
abbrev sA(gs:List Ge):List L:=[.i 1,.i 9000,.b false,.r (gs.map gR)]
theorem sg(l:List Ge):ct 14 (l.map gR)=true:=by
 unfold ct;rw[cz];intro x a;obtain⟨y,_,rfl⟩:=fE.1 a;rfl
theorem Ge.num(e:Ge):e.gn.num=((e.n+1:Nat):Int):=rfl
theorem rW{gs}(h:dG gs):rV (sA gs)=some [.b true]/\Ii (sA gs)=some [.b true]:=by
 have hn:=h.n8;have uZ:=h.n1;have oQ:gs.length-1<gs.length:=om;constructor<;>
 .refine bF ?_;refine uR ?_;rw[bD];refine bz (λxs=>xs=[.b false]) ?_ ?_
  .refine uR ?_;refine bR rfl oO (uR ?_);refine bR rfl oO ?_;refine bm (ng 4096) rfl rfl (nW ?_);refine dp (n:=4136) rfl om om (uR ?_);refine bR rfl oO (uR ?_);refine bR rfl oO (uR ?_);refine bR rfl om (uR ?_);exact bk (dF om)
  rintro _ rfl;refine nW ?_;refine cn rfl ?_;refine bz (λxs=>xs=[]) ?_ ?_;rotate_left
  .rintro _ rfl;have hg:=(h.ok _ oQ).1;have q2:=hg.sz;have q3:=hg.s.len;have q4:=hg.bd;refine nW ?_;refine di (n:=((gs.length-1:Nat):Int)) (by show(gs.length:Int) -1=_;omega) om om (nW ?_);refine bS (f:=gR) (l:=gs) (j:=gs.length-1) rfl rfl oQ rfl (nW ?_)
   repeat refine cK (f:=gR) (l:=gs) (j:=gs.length-1) rfl rfl oQ rfl rfl (nW ?_)
   refine uR ?_;refine bm (ng 0) rfl rfl (nW ?_);refine bm (awN hg.mb.wm hg.mb.mv) rfl rfl ?_;rw[show items gs[gs.length-1].gn.map=gs[gs.length-1].l from wZ hg.s.v _];refine nW ?_;refine iV (n:=24*(gs[gs.length-1].l).length) rfl om om (nW ?_);refine dp (n:=gs[gs.length-1].size+24*(gs[gs.length-1].l).length) rfl om om (nW ?_);refine iV (n:=18000) rfl om om (uR ?_);exact bk (dT om)
  refine wp_loop (I:=λa=>∃i:Nat,a=[.i i]/\i<=gs.length) (mu:=λa=>match a with|[.i i]=>gs.length-i.toNat|_=>0) ⟨0,rfl,om⟩ ?_;rintro a ⟨i,rfl,e1⟩;refine uR ?_;refine bO rfl (λhc=>?_) (λhc=>bk rfl);have hi:i<gs.length:=om;have hg:=h.ok i hi;have hsz:=hg.1.sz;refine bS (f:=gR) (l:=gs) (j:=i) rfl rfl hi rfl (nW ?_)
  repeat refine cK (f:=gR) (l:=gs) (j:=i) rfl rfl hi rfl rfl (nW ?_)
  refine uR ?_;refine bz (λxs=>xs=[.b false]) ?_ ?_
  .refine bm (EF hg.1) rfl rfl (uR ?_);refine cn rfl (uR ?_);refine di (n:=((gs.length-1:Nat):Int)) (by show(gs.length:Int) -1=_;omega) om om (uR ?_);have hm:(decide (gs[i].mode=1) !=decide ((i:Int)=((gs.length-1:Nat):Int)))=false:=by
    rw[bne_eq_false_iff_eq,decide_eq_decide,Int.ofNat_inj];exact hg.2.2
   refine cn hm (uR ?_);refine bO rfl (λh4=>?_) λh4=>?_
   .have ie:i-1<gs.length:=om;have hg1:=(h.ok _ ie).2.1;refine di (n:=((i-1:Nat):Int)) (by show(i:Int) -1=_;omega) om om (nW ?_);refine bS (f:=gR) (l:=gs) (j:=i-1) rfl rfl ie rfl (nW ?_)
    repeat refine cK (f:=gR) (l:=gs) (j:=i-1) rfl rfl ie rfl rfl (nW ?_)
    refine uR ?_;refine bR rfl (by show¬((gs[i].n+1:Nat):Int)<=((gs[i-1].n+1:Nat):Int);rw[hg.2.1,hg1];omega) ?_;refine iV (n:=18000) rfl om om (uR ?_);exact bk (dF (by show¬gs[i].size>18000;omega))
   .refine iV (n:=18000) rfl om om (uR ?_);exact bk (dF (by show¬gs[i].size>18000;omega))
  .rintro _ rfl;refine nW ?_;refine cn rfl ?_;refine b8 (i:=i) rfl om (nW ?_);refine bk ⟨⟨i+1,rfl,om⟩,?_⟩;show gs.length- ((i+1:Nat):Int).toNat<gs.length-i;omega
def cT(gs:List Ge):Ge:=gs.getD (gs.length-1) ⟨0,0,[],0⟩
theorem tw{gs}(h:dG gs):∃a:gs.length-1<gs.length,gs[gs.length-1]=cT gs:=by
 have:=h.n1;have a:gs.length-1<gs.length:=om;refine⟨a,?_⟩;unfold cT;rw[jZ,cY a];rfl
theorem lA{gs}(h:dG gs):fp (cT gs)/\(cT gs).n=gs.length-1/\(cT gs).mode=1:=by
 obtain⟨a,e⟩:=tw h;have:=h.ok _ a;rw[e]at this;exact⟨this.1,this.2.1,this.2.2.2 rfl⟩
theorem TX{gs}(h:dG gs):EI (sA gs)=some (.i 0::fq (cT gs).gn):=by
 have c:=h.n8;have a:=h.n1;obtain⟨b,e⟩:=tw h;refine bF ?_;refine bm (rW h).1 rfl rfl (uR ?_);refine cn rfl (uR ?_);rw[bD];refine di (n:=((gs.length-1:Nat):Int)) (by show(gs.length:Int) -1=_;omega) om om (nW ?_);refine bS (f:=gR) (l:=gs) (j:=gs.length-1) rfl rfl b rfl ?_;rw[e];refine uR ?_;exact bk rfl
def oR(e:Ge):List PV:=[.sc (.int .i64 (e.n+1:Nat))]
def kQ(k:Int)(e:Ge):Bool:=(c_ e.l k).isSome
theorem aoi(l:List Ge):ct 1 (l.map oR)=true:=by
 unfold ct;rw[cz];intro x a;obtain⟨y,_,rfl⟩:=fE.1 a;rfl
theorem aeo{gs}(h:dG gs)(k:Int):MQ (sA gs++[.i k])=some [.r (((gs.take (gs.length-1)).filter (kQ k)).map oR)]:=by
 have hn:=h.n8;have uZ:=h.n1;refine bF ?_;refine bz (λxs=>xs=[.r (((gs.take (gs.length-1)).filter (kQ k)).map oR)]) ?_ (by rintro _ rfl;refine nW ?_;exact bk rfl);refine wp_loop (I:=λa=>∃i:Nat,a=[.i i,.r (((gs.take i).filter (kQ k)).map oR)]/\i<=gs.length-1) (mu:=λa=>match a with|[.i i,_]=>gs.length-i.toNat|_=>0) ⟨0,rfl,om⟩ ?_;rintro a ⟨i,rfl,e1⟩;have Gi:=OJ (kQ k) (gs.take i);rw[dz]at Gi;refine bz (c8 (i+1<gs.length)) ?_ ?_
 .refine nW ?_;refine b8 (i:=i) rfl om (uR ?_);rw[bD];refine bO rfl (λhc=>?_) (λhc=>bk (e7 om));refine bm (rW h).1 rfl rfl (nW ?_);exact bk (dQ om)
 rintro _ ⟨t,rfl,ht⟩;refine nW ?_;refine iU rfl ht (λhc=>?_) (λhc=>?_);rotate_left
 .refine bk ?_;obtain rfl:i=gs.length-1:=om;rfl
 have hi:i<gs.length:=om;have hg:=(h.ok i hi).1;have me:=BX hg.mb k;have kZ:(gs.take (i+1)).filter (kQ k)=(gs.take i).filter (kQ k)++[gs[i]].filter (kQ k):=by rw[fi hi,Z0]
 refine bz (λxs=>xs=[.r (((gs.take (i+1)).filter (kQ k)).map oR)]) ?_ ?_
 .refine bS (f:=gR) (l:=gs) (j:=i) rfl rfl hi rfl (uR ?_)
  cases hf:c_ gs[i].l k with
  |none=>
   rw[hf]at me;simp only[oh]at me;refine bm me rfl rfl (nW ?_);refine cn rfl (bk ?_);rw[kZ,Z2 (by unfold kQ;rw[hf];decide),Z3,fW];rfl
  |some y=>
   rw[hf]at me;simp only[oh]at me;refine bm me rfl rfl (nW ?_);refine fT rfl ?_;refine bS (f:=gR) (l:=gs) (j:=i) rfl rfl hi rfl (uR ?_);refine er (r:=((gs.take (i+1)).filter (kQ k)).map oR) (aoi _) rfl (by show(((gs.take i).filter (kQ k)).map oR).length<=_;rw[bD];omega) (by show(1:Nat)<=_;omega) dc (by rw[kZ,Z1 (by unfold kQ;rw[hf];rfl),Z3,dE];rfl) (nW ?_);exact bk rfl
 .rintro _ rfl;refine nW ?_;refine b8 (i:=i) rfl om (nW ?_);refine bk ⟨⟨i+1,rfl,om⟩,?_⟩;show gs.length- ((i+1:Nat):Int).toNat<gs.length-i;omega
theorem Hc{gs}(h:dG gs){e:Ge}(hi:e.n<gs.length)(h':dG (gs.set e.n e)):yG (sA gs++fq e.gn)=some (.i 0::sA (gs.set e.n e)):=by
 have hn:=h.n8;have uZ:=h.n1;refine bF ?_;refine bm (rW h).1 rfl rfl (uR ?_);refine cn rfl (uR ?_);refine tO (r:=gs.map gR) rfl (sg _) (by show(0:Nat)<=_;omega) (by show(gs.map gR).length<=_;rw[bD];omega) dc rfl (nW ?_);refine bz (λxs=>xs=[.b true,.r ((gs.set e.n e).map gR)]) ?_ ?_;rotate_left
 .rintro _ rfl;refine uR ?_;refine cn rfl ?_;refine bm (rW h').2 rfl rfl (uR ?_);refine cn rfl ?_;exact bk rfl
 refine wp_loop (I:=λa=>∃(i:Nat)(c:List Ge),a=[.b (decide (e.n<i)),.i i,.r (c.map gR)]/\i<=gs.length/\c=if e.n<i then gs.set e.n e else gs) (mu:=λa=>match a with|[_,.i i,_]=>gs.length-i.toNat|_=>0) ⟨0,gs,rfl,om,(bH om).symm⟩ ?_;rintro a ⟨i,c,rfl,e1,hc⟩;have ic:c.length=gs.length:=by
  rw[hc];split
  .rw[lr]
  .rfl
 refine uR ?_;rw[bD,ic];refine bO rfl (λhx=>?_) (λhx=>?_);rotate_left
 .refine bk ?_;obtain rfl:i=gs.length:=om;rw[bA hi]at hc;rw[hc,decide_eq_true hi];rfl
 have xQ:i<c.length:=om;have hig:i<gs.length:=om;have aDf:c[i].n=i:=by
  have Zo:=(h.ok i hig).2.1;by_cases he:e.n<i
  .rw[bA he]at hc;have:c[i]=gs[i]:=by simp only[hc,Bm (show e.n≠i by omega)]
   rw[this];exact Zo
  .rw[bH he]at hc;have:c[i]=gs[i]:=by simp only[hc]
   rw[this];exact Zo
 refine bz (λxs=>∃c':List Ge,xs=[.b (decide (e.n<i+1)),.r (c'.map gR)]/\c'=if e.n<i+1 then gs.set e.n e else gs) ?_ ?_
 .refine bS (f:=gR) (l:=c) (j:=i) rfl rfl xQ rfl (nW ?_);refine cK (f:=gR) (l:=c) (j:=i) rfl rfl xQ rfl rfl (uR ?_);refine bO rfl (λhq=>?_) (λhq=>?_)
  .have hq:((c[i].n+1:Nat):Int)=((e.n+1:Nat):Int):=hq;obtain rfl:e.n=i:=om;rw[bH om]at hc;subst hc;refine bS (f:=gR) (l:=c) (j:=e.n) rfl rfl xQ rfl (nW ?_);refine uL (f:=gR) (l:=c) (j:=e.n) (v:=e) rfl rfl xQ rfl rfl (nW ?_);refine bk ⟨c.set e.n e,?_,by rw[bA om]⟩;rw[decide_eq_true (show e.n<e.n+1 by omega)];rfl
  .have hq:¬((c[i].n+1:Nat):Int)=((e.n+1:Nat):Int):=hq;have hne:i≠e.n:=om;refine bk ⟨c,?_,?_⟩
   .rw[decide_eq_decide.2 (show e.n<i+1↔e.n<i by omega)];rfl
   .rw[hc];by_cases h3:e.n<i
    .rw[bA h3,bA om]
    .rw[bH h3,bH om]
 .rintro _ ⟨c',rfl,hc'⟩;refine nW ?_;refine b8 (i:=i) rfl om (nW ?_);refine bk ⟨⟨i+1,c',rfl,om,hc'⟩,?_⟩;show gs.length- ((i+1:Nat):Int).toNat<gs.length-i;omega
theorem RA{gs}(h:dG gs){b}(a:b=true↔gs.length<8):GR (sA gs)=some [.b b]:=by
 have i:=h.n8;have c:=h.n1;obtain⟨d,e⟩:=tw h;have g:=(lA h).2.1;refine bF ?_;refine bz (c8 (gs.length<8)) ?_ (rB a);refine bm (rW h).1 rfl rfl (nW ?_);refine fT rfl (uR ?_);rw[bD];refine di (n:=((gs.length-1:Nat):Int)) (by show(gs.length:Int) -1=_;omega) om om (nW ?_);refine bS (f:=gR) (l:=gs) (j:=gs.length-1) rfl rfl d rfl ?_;rw[e];refine uR ?_;refine bk (e_ ?_);show(((cT gs).n+1:Nat):Int)<8↔_;omega
def eR(e:Ge):Ge:={e with mode:=2}
def jL(n:Nat):Ge:=⟨n,1,[],0⟩
def eI(gs:List Ge):List Ge:=gs.take (gs.length-1)++[eR (cT gs),jL gs.length]
theorem ave{gs}(h:dG gs)(c:gs.length<8):EL (sA gs)=some (.i 0::sA (eI gs)):=by
 have d:=h.n1;obtain⟨g,e⟩:=tw h;have a:=lA h;refine bF ?_;refine bm (rW h).1 rfl rfl (uR ?_);refine cn rfl ?_;refine bm (RA h (b:=true) (jt c)) rfl rfl (uR ?_);refine cn rfl (uR ?_);rw[bD];refine di (n:=((gs.length-1:Nat):Int)) (by show(gs.length:Int) -1=_;omega) om om (nW ?_);refine bS (f:=gR) (l:=gs) (j:=gs.length-1) rfl rfl g rfl ?_;rw[e];refine uR ?_;refine bm (adO a.1 a.2.2) rfl rfl (nW ?_);refine dp (n:=((gs.length+1:Nat):Int)) (by show(((cT gs).n+1:Nat):Int)+1=_;omega) om om (nW ?_);refine bm (Pc c) rfl rfl (uR ?_);refine di (n:=((gs.length-1:Nat):Int)) (by show(gs.length:Int) -1=_;omega) om om (uR ?_);rw[bD];refine xy (r:=(gs.take (gs.length-1)).map gR) ⟨by show(0:Int)<=0;omega,by show(0:Int)<=((gs.length-1:Nat):Int);omega,by show((gs.length-1:Nat):Int).toNat<=(gs.map gR).length;rw[bD];omega,sg gs⟩ (by rw[lj];rfl) (nW ?_);refine tO (r:=(gs.take (gs.length-1)).map gR) rfl (sg _) (by show(0:Nat)<=_;omega) (by show((gs.take (gs.length-1)).map gR).length<=_;rw[bD,dz];omega) dc rfl (uR ?_);refine tO (r:=(eI gs).map gR) (sg _) rfl (by show((gs.take (gs.length-1)).map gR).length<=_;rw[bD,dz];omega) (by show(2:Nat)<=_;omega) dc (by unfold eI;rw[dE];rfl) (nW ?_);exact bk rfl
theorem atp{gs}(h:dG gs)(a:¬gs.length<8):EL (sA gs)=some [.i 9,.i 0,.i 0,.b false,.r []]:=by
 refine bF ?_;refine bm (rW h).1 rfl rfl (uR ?_);refine cn rfl ?_;refine bm (RA h (b:=false) (I9 a)) rfl rfl (uR ?_);refine fT rfl ?_;exact bk rfl
theorem UM{n}(h:n<8):fp (jL n):=⟨h,(by show(1:Int)<=1;omega),(by show(1:Int)<=3;omega),SL.nil,List.Pairwise.nil,λx a=>(by cases a),(by show(0:Int)<=0;omega),(by show(0:Int)%8=0;omega),(by show(16:Int)+cS []+0<=17000;rw[show cS []=0 from rfl];omega)⟩
theorem Ji:dG [jL 0]:=⟨dc,dc,λi h=>by
 obtain rfl:i=0:=by have:i<1:=h;omega
 exact⟨UM dc,rfl,⟨λ_=>rfl,λ_=>rfl⟩⟩⟩
theorem afr:JC [.i 1,.i 9000]=some (.i 0::[.i 1,.i 9000,.r ([jL 0].map gR)]):=by
 refine bF ?_;refine bm (Pc (n:=0) dc) rfl rfl (uR ?_);refine bm (rW Ji).1 rfl rfl (uR ?_);refine cn rfl ?_;exact bk rfl
theorem awq{gs}(h:dG gs)(d:gs.length<8):dG (eI gs):=by
 have e:=h.n1;have c:=lA h;have hlen:(eI gs).length=gs.length+1:=by unfold eI;simp;omega
 refine⟨om,om,λi f=>?_⟩;have g:i<gs.length+1:=om;have a:∀{y},(eI gs)[i]?=some y->(eI gs)[i]=y:=λh=>by
  rw[cY f]at h;exact rm h
 by_cases j:i<gs.length-1
 .have b:(eI gs)[i]=gs[i]:=a (by
   unfold eI;rw[oY (by rw[dz];omega),List.getElem?_take_of_lt j,cY])
  have:=h.ok i om;rw[b];refine⟨this.1,this.2.1,?_⟩;rw[this.2.2];omega
 .by_cases k:i=gs.length-1
  .have b:(eI gs)[i]=eR (cT gs):=a (by
    unfold eI;rw[kF (by rw[dz];omega),dz,show i-min (gs.length-1) gs.length=0 by omega];rfl)
   rw[b];have:=c.1;refine⟨⟨this.n8,(by show(1:Int)<=2;omega),(by show(2:Int)<=3;omega),this.s,this.cl,this.en,this.g0,this.g8,this.sz⟩,by show(cT gs).n=i;omega,⟨λh=>by have h:(2:Int)=1:=h;omega,λh=>by omega⟩⟩
  .have b:(eI gs)[i]=jL gs.length:=a (by
    unfold eI;rw[kF (by rw[dz];omega),dz,show i-min (gs.length-1) gs.length=1 by omega];rfl)
   rw[b];exact⟨UM d,by show gs.length=i;omega,⟨λ_=>by omega,λ_=>rfl⟩⟩
end
section
open Go.RowKit Pl AI
attribute [local irreducible] bl.wp
attribute [local irreducible] rC
def fw(x:Fl):List PV:=[.sc (.string x.name),.sl x.base,.nl]
theorem ahV{s b}(hb:ct 1 b=true)(hl:b.length<=4294967296):J3 [s,.r b,.r []]=some []:=by
 refine bF ?_;refine bm (qe hb hl) rfl rfl (nW ?_);refine bm (l:=[]) (show zP [.r []]=some []from rfl) rfl rfl (nW ?_);refine bz (λxs=>xs=[]) ?_ (by rintro _ rfl;refine nW ?_;exact bk rfl);refine wp_loop (I:=λa=>a=[]) (mu:=λ_=>0) rfl ?_;rintro a rfl;refine nW ?_;exact bk rfl
theorem awk{x:Fl}(h:x.bM=[]):bJ x=[.sc (.string x.name),.sl x.base,.sl []]:=by unfold bJ;rw[h];rfl
theorem abi{l:List Fl}(hl:l.length<=1000)(hf:∀x∈l,jb x)(hp:∀x∈l,x.bM=[]){a b}:Kf [a,b,.r (l.map bJ)]=some [.r (l.map fw)]:=by
 refine bF ?_;refine bm (IQ om) rfl rfl (nW ?_);refine bz (λxs=>xs=[.r (l.map fw)]) ?_ (by rintro _ rfl;refine nW ?_;exact bk rfl);refine uR ?_;rw[bD];refine wp_loop (I:=λa=>∃i:Nat,a=[.i i,.r ((l.take i).map fw++(l.drop i).map bJ)]/\i<=l.length) (mu:=λa=>match a with|[.i i,_]=>l.length-i.toNat|_=>0) ⟨0,rfl,om⟩ ?_;rintro a ⟨i,rfl,e1⟩;refine uR ?_;refine bO rfl (λhc=>?_) (λhc=>?_);rotate_left
 .refine bk ?_;show[L.r ((l.take i).map fw++(l.drop i).map bJ)]=_;rw[eo om,Gz om,gJ,fW]
 have hi:i<l.length:=om;have hm:=cQ hi;have hA:((i:Nat):Int)=(((l.take i).map fw).length:Nat):=by rw[bD,dz,nQ e1]
 rw[sS hi,dk,awk (hp _ hm)];refine Ai rfl hA rfl (nW ?_);refine ou rfl hA rfl rfl (nW ?_);refine ou rfl hA rfl rfl (nW ?_);refine ou rfl hA rfl rfl (nW ?_);refine bm (l:=[]) (ahV (hf _ hm).1 (hf _ hm).2.1) rfl rfl (nW ?_);refine Ai rfl hA rfl (nW ?_);refine K5 (r':=fw l[i]) rfl hA (by show(3:Nat)<=3;omega) rfl (nW ?_);refine b8 (i:=i) rfl om (nW ?_);refine bk ⟨⟨i+1,?_,om⟩,?_⟩
 .rw[fi hi,dE,dI];rfl
 .show l.length- ((i+1:Nat):Int).toNat<l.length-i;omega
theorem ahn{A x B s}(h:kM A x B s)(hp:∀y∈A++x::B,y.bM=[]):Jh (dA (A++x::B)++[.s s,.b true])=some [.i (A.length:Nat),.i 0,.i 0,.i (-1),.r ((A++x::B).map fw)]:=by
 refine bF ?_;refine bm h.open rfl rfl (nW ?_);refine bz (λxs=>xs=[.i (A.length:Nat),.i 0]) ?_ ?_
 .refine bz (λxs=>xs=[.b false]) ?_ ?_
  .refine uR ?_;refine bR rfl oO ?_;exact bk rfl
  rintro _ rfl;refine nW ?_;refine cn rfl ?_;refine bz (λxs=>xs=[.b false]) ?_ ?_
  .refine uR ?_;refine cP rfl rfl (uR ?_);exact bk rfl
  rintro _ rfl;refine nW ?_;refine cn rfl ?_;exact bk rfl
 rintro _ rfl;refine uR ?_;refine bR rfl (λh=>h rfl) ?_;refine bm (abi (by have:=h.d.len;omega) h.d.pn hp) rfl rfl (nW ?_);refine bz (λxs=>xs=[.i (-1)]) ?_ ?_
 .refine uR ?_;refine bR rfl oO ?_;exact bk rfl
 rintro _ rfl;refine nW ?_;exact bk rfl
def lZ(x:Fl)(b:By):Fl:=⟨x.name,x.base,[⟨x.base.length,b,false⟩]⟩
theorem akn{A x B}{b:By}(d:okF x.base []/\jb ⟨x.name,x.base,[]⟩)(c:okF (lZ x b).base (lZ x b).bM/\jb (lZ x b))(i:b.length<=1048576):II [.i 0,.i (-1),.r ((A++x::B).map fw),.i (A.length:Nat),.i x.base.length,.r b]=some [.r (A.map fw++bJ (lZ x b)::B.map fw)]:=by
 have h:=d.1.1;have g:=c.2.2.2.2 _ (jX.2 rfl);have e:=BI d.2 d.1;have f:=BI c.2 c.1;have j:(dm (lZ x b).base (lZ x b).bM).length<=1048576:=by
  have:=qJ c.1.1 (qu.1 c.1.2) (de _)
  rwa [jY]at this
 rw[ug];have a:(((A.length:Nat):Int))=((A.map fw).length:Nat):=by rw[bD]
 refine bF ?_;refine Ai rfl a rfl (nW ?_);refine ou (r:=fw x) rfl a rfl rfl (nW ?_);refine ou (r:=fw x) rfl a rfl rfl (nW ?_);refine ou (r:=fw x) rfl a rfl rfl (nW ?_);refine bm e rfl rfl (uR ?_);refine bR rfl om ?_;refine ou (r:=fw x) rfl a rfl rfl (nW ?_);refine bm (qe g.1 g.2) rfl rfl (uR ?_);refine Ai (A:=[]) (r:=df ⟨x.base.length,b,false⟩) (B:=[]) rfl rfl rfl (nW ?_);refine er (r:=[df ⟨x.base.length,b,false⟩]) rfl rfl (by show(0:Nat)<=_;omega) (by show(1:Nat)<=_;omega) dc rfl (nW ?_);refine K5 (r:=fw x) (r':=bJ (lZ x b)) rfl a (by show(3:Nat)<=3;omega) rfl (nW ?_);refine ou (r:=bJ (lZ x b)) rfl a rfl rfl (nW ?_);refine ou (r:=bJ (lZ x b)) rfl a rfl rfl (nW ?_);refine ou (r:=bJ (lZ x b)) rfl a rfl rfl (nW ?_);refine bm f rfl rfl (nW ?_);refine bz (λxs=>xs=[.b false]) ?_ ?_
 .refine uR ?_;refine bR rfl om (uR ?_);refine bO rfl (λ_=>?_) (λ_=>?_)
  .refine uR ?_;refine bR rfl oO ?_;exact bk rfl
  .exact bk rfl
 rintro _ rfl;refine nW ?_;refine cn rfl ?_;exact bk rfl
theorem adM{A x B s}{b:By}(h:kM A x B s)(hp:∀y∈A++x::B,y.bM=[])(g:okF (lZ x b).base (lZ x b).bM/\jb (lZ x b))(i:b.length<=1048576):Df (dA (A++x::B)++[.s s,.r b])=some [.i 0,.i 0,.i (-1),.r (A.map fw++bJ (lZ x b)::B.map fw)]:=by
 have a:=h.ok;have c:=hp x (by simp);have d:okF x.base []/\jb ⟨x.name,x.base,[]⟩:=by
  rw[c]at a;exact⟨a.1,a.2.1,a.2.2.1,eM _,λw j=>by cases j⟩
 have e:rC [.s x.name,.r x.base,.r []]=some [.i x.base.length]:=BI d.2 d.1;refine bF (f:=Mr) ?_;refine bm (ahn h hp) rfl rfl (uR ?_);refine bR rfl (λh=>h rfl) ?_;refine C_ (f:=fw) (A:=A) (x:=x) (B:=B) rfl rfl rfl (nW ?_);refine qT (f:=fw) (A:=A) (x:=x) (B:=B) rfl rfl rfl rfl (nW ?_);refine qT (f:=fw) (A:=A) (x:=x) (B:=B) rfl rfl rfl rfl (nW ?_);refine qT (f:=fw) (A:=A) (x:=x) (B:=B) rfl rfl rfl rfl (nW ?_);refine bm e rfl rfl (nW ?_);refine bm (akn d g i) rfl rfl (nW ?_);exact bk rfl
theorem SY{l:List Fl}{g:Fl->List PV}(hg:∀x∈l,g x=bJ x\/(x.bM=[]/\g x=fw x))(hl:l.length<=1000)(hf:∀x∈l,jb x){a b}:ti [a,b,.r (l.map g)]=some [.r (l.map bJ)]:=by
 refine bF (f:=Jl) ?_;refine bz (λxs=>xs=[.r (l.map bJ)]) ?_ (by rintro _ rfl;refine nW ?_;exact bk rfl);refine uR ?_;rw[bD];refine wp_loop (I:=λa=>∃i:Nat,a=[.i i,.r ((l.take i).map bJ)]/\i<=l.length) (mu:=λa=>match a with|[.i i,_]=>l.length-i.toNat|_=>0) ⟨0,rfl,om⟩ ?_;rintro a ⟨i,rfl,e1⟩;refine uR ?_;refine bO rfl (λhc=>?_) (λhc=>?_);rotate_left
 .refine bk ?_;show[L.r ((l.take i).map bJ)]=_;rw[eo om]
 have hi:i<l.length:=om;have hm:=cQ hi;have mf:=hf _ hm;have hpl:=mf.2.2.1;have hq:∃q:PV,g l[i]=[.sc (.string l[i].name),.sl l[i].base,q]/\Kd.gr.of q=some (.r (l[i].bM.map df)):=by
  rcases hg _ hm with e| ⟨e1,e⟩
  .exact⟨.sl (l[i].bM.map df),e,rfl⟩
  .refine⟨.nl,e,?_⟩;rw[e1];rfl
 obtain⟨q,NT,F3⟩:=hq;refine bS (f:=g) (l:=l) (j:=i) rfl rfl hi (by rw[NT];rfl) ?_;rw[NT];refine uR ?_;refine Q5 (q:=q) rfl F3 (nW ?_);refine bz (λxs=>xs=[.r (l[i].bM.map df)]) ?_ ?_
 .refine uR ?_;rw[bD];refine wp_loop (I:=λa=>∃j:Nat,a=[.i j,.r ((l[i].bM.take j).map df)]/\j<=l[i].bM.length) (mu:=λa=>match a with|[.i j,_]=>l[i].bM.length-j.toNat|_=>0) ⟨0,rfl,om⟩ ?_;rintro a ⟨j,rfl,e2⟩;refine uR ?_;refine bO rfl (λhd=>?_) (λhd=>?_);rotate_left
  .refine bk ?_;show[L.r ((l[i].bM.take j).map df)]=_;rw[eo om]
  have hj:j<l[i].bM.length:=om;refine bS (f:=df) (l:=l[i].bM) (j:=j) rfl rfl hj rfl (uR ?_);refine er (r:=(l[i].bM.take (j+1)).map df) (MB _) rfl (by show((l[i].bM.take j).map df).length<=_;rw[bD,dz];omega) (by show(1:Nat)<=_;omega) dc (by rw[fi hj,dE];rfl) (nW ?_);refine b8 (i:=j) rfl om (nW ?_);refine bk ⟨⟨j+1,rfl,om⟩,?_⟩;show l[i].bM.length- ((j+1:Nat):Int).toNat<l[i].bM.length-j;omega
 rintro _ rfl;refine uR ?_;refine er (r:=(l.take (i+1)).map bJ) (lO _) rfl (by show((l.take i).map bJ).length<=_;rw[bD,dz];omega) (by show(1:Nat)<=_;omega) dc (by rw[fi hi,dE];rfl) (nW ?_);refine b8 (i:=i) rfl om (nW ?_);refine bk ⟨⟨i+1,rfl,om⟩,?_⟩;show l.length- ((i+1:Nat):Int).toNat<l.length-i;omega
theorem XT{l:List Fl}(hl:l.length<=1000)(hf:∀x∈l,jb x){a b}:Mm [a,b,.r (l.map bJ)]=some [.r (l.map bJ)]:=by
 refine bF (f:=QG) ?_;refine bz (λxs=>xs=[.r (l.map bJ)]) ?_ (by rintro _ rfl;refine nW ?_;exact bk rfl);refine uR ?_;rw[bD];refine wp_loop (I:=λa=>∃i:Nat,a=[.i i,.r ((l.take i).map bJ)]/\i<=l.length) (mu:=λa=>match a with|[.i i,_]=>l.length-i.toNat|_=>0) ⟨0,rfl,om⟩ ?_;rintro a ⟨i,rfl,e1⟩;refine uR ?_;refine bO rfl (λhc=>?_) (λhc=>?_);rotate_left
 .refine bk ?_;show[L.r ((l.take i).map bJ)]=_;rw[eo om]
 have hi:i<l.length:=om;have hm:=cQ hi;have mf:=hf _ hm;have hpl:=mf.2.2.1;refine bS (f:=bJ) (l:=l) (j:=i) rfl rfl hi rfl (uR ?_);refine bz (λxs=>xs=[.r (l[i].bM.map df)]) ?_ ?_
 .refine uR ?_;rw[bD];refine wp_loop (I:=λa=>∃j:Nat,a=[.i j,.r ((l[i].bM.take j).map df)]/\j<=l[i].bM.length) (mu:=λa=>match a with|[.i j,_]=>l[i].bM.length-j.toNat|_=>0) ⟨0,rfl,om⟩ ?_;rintro a ⟨j,rfl,e2⟩;refine uR ?_;refine bO rfl (λhd=>?_) (λhd=>?_);rotate_left
  .refine bk ?_;show[L.r ((l[i].bM.take j).map df)]=_;rw[eo om]
  have hj:j<l[i].bM.length:=om;refine bS (f:=df) (l:=l[i].bM) (j:=j) rfl rfl hj rfl (uR ?_);refine er (r:=(l[i].bM.take (j+1)).map df) (MB _) rfl (by show((l[i].bM.take j).map df).length<=_;rw[bD,dz];omega) (by show(1:Nat)<=_;omega) dc (by rw[fi hj,dE];rfl) (nW ?_);refine b8 (i:=j) rfl om (nW ?_);refine bk ⟨⟨j+1,rfl,om⟩,?_⟩;show l[i].bM.length- ((j+1:Nat):Int).toNat<l[i].bM.length-j;omega
 rintro _ rfl;refine uR ?_;refine er (r:=(l.take (i+1)).map bJ) (lO _) rfl (by show((l.take i).map bJ).length<=_;rw[bD,dz];omega) (by show(1:Nat)<=_;omega) dc (by rw[fi hi,dE];rfl) (nW ?_);refine b8 (i:=i) rfl om (nW ?_);refine bk ⟨⟨i+1,rfl,om⟩,?_⟩;show l.length- ((i+1:Nat):Int).toNat<l.length-i;omega
theorem Pt{l:List Fl}(hl:l.length<=1000)(hf:∀x∈l,jb x){a b}:LV [a,b,.r (l.map bJ)]=some [.r (l.map bJ)]:=by
 refine bF (f:=Rt) ?_;refine bm (IQ om) rfl rfl (nW ?_);refine bz (λxs=>xs=[.r (l.map bJ)]) ?_ (by rintro _ rfl;refine nW ?_;exact bk rfl);refine uR ?_;rw[bD];refine wp_loop (I:=λa=>∃i:Nat,a=[.i i,.r (l.map bJ)]/\i<=l.length) (mu:=λa=>match a with|[.i i,_]=>l.length-i.toNat|_=>0) ⟨0,rfl,om⟩ ?_;rintro a ⟨i,rfl,e1⟩;refine uR ?_;refine bO rfl (λhc=>?_) (λhc=>?_);rotate_left
 .exact bk rfl
 have hi:i<l.length:=om;have mf:=hf _ (cQ hi);have hpl:=mf.2.2.1;refine bS (f:=bJ) (l:=l) (j:=i) rfl rfl hi rfl (nW ?_);refine cK (f:=bJ) (l:=l) (j:=i) rfl rfl hi rfl rfl (nW ?_);refine cK (f:=bJ) (l:=l) (j:=i) rfl rfl hi rfl rfl (nW ?_);refine cK (f:=bJ) (l:=l) (j:=i) rfl rfl hi rfl rfl (nW ?_);refine bm (qe mf.1 mf.2.1) rfl rfl (nW ?_);refine bm (Xo hpl) rfl rfl (nW ?_);refine bz (λxs=>xs=[.r (l[i].bM.map df)]) ?_ ?_
 .refine uR ?_;rw[bD];refine wp_loop (I:=λa=>∃j:Nat,a=[.i j,.r (l[i].bM.map df)]/\j<=l[i].bM.length) (mu:=λa=>match a with|[.i j,_]=>l[i].bM.length-j.toNat|_=>0) ⟨0,rfl,om⟩ ?_;rintro a ⟨j,rfl,e2⟩;refine uR ?_;refine bO rfl (λhd=>?_) (λhd=>?_);rotate_left
  .exact bk rfl
  have hj:j<l[i].bM.length:=om;have hw:=mf.2.2.2 _ (cQ hj);refine bS (f:=df) (l:=l[i].bM) (j:=j) rfl rfl hj rfl (nW ?_);refine cK (f:=df) (l:=l[i].bM) (j:=j) rfl rfl hj rfl rfl (nW ?_);refine cK (f:=df) (l:=l[i].bM) (j:=j) rfl rfl hj rfl rfl (nW ?_);refine cK (f:=df) (l:=l[i].bM) (j:=j) rfl rfl hj rfl rfl (nW ?_);refine bm (qe hw.1 hw.2) rfl rfl (nW ?_);refine bS (f:=df) (l:=l[i].bM) (j:=j) rfl rfl hj rfl (nW ?_);refine lN (f:=df) (l:=l[i].bM) (n:=j) rfl rfl hj (by show(2:Nat)<=3;omega) rfl (nW ?_);refine b8 (i:=j) rfl om (nW ?_);refine bk ⟨⟨j+1,rfl,om⟩,?_⟩;show l[i].bM.length- ((j+1:Nat):Int).toNat<l[i].bM.length-j;omega
 rintro _ rfl;refine nW ?_;refine bS (f:=bJ) (l:=l) (j:=i) rfl rfl hi rfl (nW ?_);refine lN (f:=bJ) (l:=l) (n:=i) rfl rfl hi (by show(3:Nat)<=3;omega) rfl (nW ?_);refine b8 (i:=i) rfl om (nW ?_);refine bk ⟨⟨i+1,rfl,om⟩,?_⟩;show l.length- ((i+1:Nat):Int).toNat<l.length-i;omega
theorem Pb{gs:List Ge}(hl:gs.length<=8):Um (sA gs)=some [.r (gs.map gR)]:=by
 have A5:∀g:Gn,HV (fq g)=some []:=λg=>by
  refine bF ?_;refine bm (l:=[]) ?_ rfl rfl (bk rfl);refine bF ?_;exact bk rfl
 refine bF (f:=Sz) ?_;refine bz (λxs=>xs=[.r (gs.map gR)]) ?_ (by rintro _ rfl;refine nW ?_;exact bk rfl);refine uR ?_;rw[bD];refine wp_loop (I:=λa=>∃i:Nat,a=[.i i,.r ((gs.take i).map gR)]/\i<=gs.length) (mu:=λa=>match a with|[.i i,_]=>gs.length-i.toNat|_=>0) ⟨0,rfl,om⟩ ?_;rintro a ⟨i,rfl,g1⟩;refine uR ?_;refine bO rfl (λhc=>?_) (λhc=>?_);rotate_left
 .refine bk ?_;show[L.r ((gs.take i).map gR)]=_;rw[eo om]
 have hi:i<gs.length:=om;refine bS (f:=gR) (l:=gs) (j:=i) rfl rfl hi rfl (uR ?_);refine bm (A5 gs[i].gn) rfl rfl (uR ?_);refine tO (r:=(gs.take (i+1)).map gR) (sg _) rfl (by show((gs.take i).map gR).length<=_;rw[bD,dz];omega) (by show(1:Nat)<=_;omega) dc (by rw[fi hi,dE];rfl) (nW ?_);refine b8 (i:=i) rfl om (nW ?_);refine bk ⟨⟨i+1,rfl,om⟩,?_⟩;show gs.length- ((i+1:Nat):Int).toNat<gs.length-i;omega
theorem QF{gs:List Ge}(hl:gs.length<=8):KS (sA gs)=some [.r (gs.map gR)]:=by
 have A5:∀g:Gn,I6 (fq g)=some []:=λg=>by
  refine bF ?_;refine bm (l:=[]) ?_ rfl rfl (bk rfl);refine bF ?_;exact bk rfl
 refine bF (f:=V9) ?_;refine bz (λxs=>xs=[.r (gs.map gR)]) ?_ (by rintro _ rfl;refine nW ?_;exact bk rfl);refine uR ?_;rw[bD];refine wp_loop (I:=λa=>∃i:Nat,a=[.i i,.r ((gs.take i).map gR)]/\i<=gs.length) (mu:=λa=>match a with|[.i i,_]=>gs.length-i.toNat|_=>0) ⟨0,rfl,om⟩ ?_;rintro a ⟨i,rfl,g1⟩;refine uR ?_;refine bO rfl (λhc=>?_) (λhc=>?_);rotate_left
 .refine bk ?_;show[L.r ((gs.take i).map gR)]=_;rw[eo om]
 have hi:i<gs.length:=om;refine bS (f:=gR) (l:=gs) (j:=i) rfl rfl hi rfl (uR ?_);refine bm (A5 gs[i].gn) rfl rfl (uR ?_);refine tO (r:=(gs.take (i+1)).map gR) (sg _) rfl (by show((gs.take i).map gR).length<=_;rw[bD,dz];omega) (by show(1:Nat)<=_;omega) dc (by rw[fi hi,dE];rfl) (nW ?_);refine b8 (i:=i) rfl om (nW ?_);refine bk ⟨⟨i+1,rfl,om⟩,?_⟩;show gs.length- ((i+1:Nat):Int).toNat<gs.length-i;omega
theorem V7{gs:List Ge}(h:dG gs):JK (sA gs)=some [.r (gs.map gR)]:=by
 have hl:=h.n8;refine bF (f:=Qj) ?_;refine bm (l:=[]) (show Cj [.r (gs.map gR)]=some []from bA ⟨sg _,by rw[bD];omega⟩) rfl rfl (nW ?_);refine bz (λxs=>xs=[.r (gs.map gR)]) ?_ (by rintro _ rfl;refine nW ?_;exact bk rfl);refine uR ?_;rw[bD];refine wp_loop (I:=λa=>∃i:Nat,a=[.i i,.r (gs.map gR)]/\i<=gs.length) (mu:=λa=>match a with|[.i i,_]=>gs.length-i.toNat|_=>0) ⟨0,rfl,om⟩ ?_;rintro a ⟨i,rfl,g1⟩;refine uR ?_;refine bO rfl (λhc=>?_) (λhc=>?_);rotate_left
 .exact bk rfl
 have hi:i<gs.length:=om;have hs:=(h.ok i hi).1.s;have cli:∀s,kU [.r ((dC gs[i].l s).map bt)]=some []:=λs=>bA ⟨fY _,by
  have h1:=AF gs[i].l s;have h2:=hs.len;rw[bD];omega⟩
 refine bS (f:=gR) (l:=gs) (j:=i) rfl rfl hi rfl (nW ?_);refine cK (f:=gR) (l:=gs) (j:=i) rfl rfl hi rfl rfl (nW ?_);refine bm (cli _) rfl rfl (nW ?_);refine lN (f:=gR) (l:=gs) (n:=i) rfl rfl hi (by show(5:Nat)<=14;omega) rfl (nW ?_);refine cK (f:=gR) (l:=gs) (j:=i) rfl rfl hi rfl rfl (nW ?_);refine bm (cli _) rfl rfl (nW ?_);refine lN (f:=gR) (l:=gs) (n:=i) rfl rfl hi (by show(6:Nat)<=14;omega) rfl (nW ?_);refine cK (f:=gR) (l:=gs) (j:=i) rfl rfl hi rfl rfl (nW ?_);refine bm (cli _) rfl rfl (nW ?_);refine lN (f:=gR) (l:=gs) (n:=i) rfl rfl hi (by show(7:Nat)<=14;omega) rfl (nW ?_);refine cK (f:=gR) (l:=gs) (j:=i) rfl rfl hi rfl rfl (nW ?_);refine bm (cli _) rfl rfl (nW ?_);refine lN (f:=gR) (l:=gs) (n:=i) rfl rfl hi (by show(8:Nat)<=14;omega) rfl (nW ?_);refine cK (f:=gR) (l:=gs) (j:=i) rfl rfl hi rfl rfl (nW ?_);refine bm (cli _) rfl rfl (nW ?_);refine lN (f:=gR) (l:=gs) (n:=i) rfl rfl hi (by show(9:Nat)<=14;omega) rfl (nW ?_);refine cK (f:=gR) (l:=gs) (j:=i) rfl rfl hi rfl rfl (nW ?_);refine bm (cli _) rfl rfl (nW ?_);refine lN (f:=gR) (l:=gs) (n:=i) rfl rfl hi (by show(10:Nat)<=14;omega) rfl (nW ?_);refine cK (f:=gR) (l:=gs) (j:=i) rfl rfl hi rfl rfl (nW ?_);refine bm (cli _) rfl rfl (nW ?_);refine lN (f:=gR) (l:=gs) (n:=i) rfl rfl hi (by show(11:Nat)<=14;omega) rfl (nW ?_);refine cK (f:=gR) (l:=gs) (j:=i) rfl rfl hi rfl rfl (nW ?_);refine bm (cli _) rfl rfl (nW ?_);refine lN (f:=gR) (l:=gs) (n:=i) rfl rfl hi (by show(12:Nat)<=14;omega) rfl (nW ?_);refine b8 (i:=i) rfl om (nW ?_);refine bk ⟨⟨i+1,rfl,om⟩,?_⟩;show gs.length- ((i+1:Nat):Int).toNat<gs.length-i;omega
def ow(x:Fl):List PV:=[.sc (.string x.name)]
theorem aiP{l:List Fl}(h:jB l):K2 (dA l)=some [.r (l.map ow)]:=by
 have hl:=h.len;obtain⟨b,hb⟩:=fH (iw ⟨0,-1,l⟩);have hv:=w8 h.f hb;rw[hb.2 h.d]at hv;refine bF ?_;refine bm hv rfl rfl (uR ?_);refine cn rfl ?_;refine bz (λxs=>xs=[.r (l.map ow)]) ?_ (by rintro _ rfl;refine nW ?_;exact bk rfl);refine uR ?_;rw[bD];refine wp_loop (I:=λa=>∃i:Nat,a=[.i i,.r ((l.take i).map ow)]/\i<=l.length) (mu:=λa=>match a with|[.i i,_]=>l.length-i.toNat|_=>0) ⟨0,rfl,om⟩ ?_;rintro a ⟨i,rfl,e1⟩;refine uR ?_;refine bO rfl (λhc=>?_) (λhc=>?_);rotate_left
 .refine bk ?_;show[L.r ((l.take i).map ow)]=_;rw[eo om]
 have hi:i<l.length:=om;refine bS (f:=bJ) (l:=l) (j:=i) rfl rfl hi rfl (uR ?_);refine er (r:=(l.take (i+1)).map ow) (W8 (f:=ow) (n:=1) (λ_=>rfl) _) rfl (by show((l.take i).map ow).length<=_;rw[bD,dz];omega) (by show(1:Nat)<=_;omega) dc (by rw[fi hi,dE];rfl) (nW ?_);refine b8 (i:=i) rfl om (nW ?_);refine bk ⟨⟨i+1,rfl,om⟩,?_⟩;show l.length- ((i+1:Nat):Int).toNat<l.length-i;omega
theorem adI{l:List Fl}(hl:l.length<=1000){s:fu}(h:∀x∈l,(x.name.toList==s.toList)=false):Fz [.r (l.map ow),.s s]=some [.b false]:=by
 have hi:G4 [.r (l.map ow),.s s]=some [.i (-1)]:=by
  refine bF ?_;refine bz (λxs=>xs=[]) ?_ (by rintro _ rfl;refine nW ?_;exact bk rfl);refine uR ?_;rw[bD];refine wp_loop (I:=λa=>∃i:Nat,a=[.i i]/\i<=l.length) (mu:=λa=>match a with|[.i i]=>l.length-i.toNat|_=>0) ⟨0,rfl,om⟩ ?_;rintro a ⟨i,rfl,e1⟩;refine uR ?_;refine bO rfl (λhc=>?_) (λhc=>?_);rotate_left
  .exact bk rfl
  have hi:i<l.length:=om;have hx:=h _ (cQ hi);refine bS (f:=ow) (l:=l) (j:=i) rfl rfl hi rfl (uR ?_);refine mq (l:=.b false) (by
   show some (L.b (s.toList==l[i].name.toList))=_;rw[beq_eq_false_iff_ne.2 λe=>by rw[e]at hx;exact absurd (beq_self_eq_true _) (by rw[hx];decide)]) (nW ?_)
  refine cn rfl ?_;refine b8 (i:=i) rfl om (nW ?_);refine bk ⟨⟨i+1,rfl,om⟩,?_⟩;show l.length- ((i+1:Nat):Int).toNat<l.length-i;omega
 refine bF ?_;refine bm hi rfl rfl (uR ?_);exact bk (by show[L.b (decide ((-1:Int)>=0))]=_;rw[decide_eq_false om])
theorem aeL{A x B s}(h:kM A x B s):Fg (dA (A++x::B)++[.s s])=some [.i (dm x.base x.bM).length,.i 0]:=by
 have a:=h.ok;refine bF ?_;refine bm h.open rfl rfl (uR ?_);refine bR rfl (λh=>h rfl) ?_;refine C_ (f:=bJ) (A:=A) (x:=x) (B:=B) rfl rfl rfl (uR ?_);refine bm (BI a.2 a.1) rfl rfl (nW ?_);exact bk rfl
theorem auZ{A x B s}(h:kM A x B s){n:Nat}(a:n=(dm x.base x.bM).length):r_ (dA (A++x::B)++[.s s,.i 0,.i n])=some [.i 0,.r (dm x.base x.bM)]:=by
 have b:Wh ⟨0,-1,A++x::B⟩ s (dm x.base x.bM):=⟨h.d.d,h.n,(by show(-1:Int)≠0;omega),A.length,h.at,by
  show _=dm ((A++x::B)[A.length]'_).base ((A++x::B)[A.length]'_).bM;rw[Fj]⟩
 have:=((ajY h.d.f h.z).1 _ b 0 (n:Int)).2 (by unfold kv;omega);rw[show((0:Int)+(n:Int)).toNat=n by omega,a,jY]at this;rw[a];exact this
end
end
end Go.Proofs.YtiikkkhcolcebaaGreatDoor
