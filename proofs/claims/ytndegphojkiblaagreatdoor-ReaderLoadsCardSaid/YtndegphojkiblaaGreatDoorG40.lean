/- Towards the last file's theorem: part 40. -/
import Derived.Test.YtndegphojkiblaaGreatDoorG13
import Derived.Test.YtndegphojkiblaaGreatDoorG27
import Derived.Test.YtndegphojkiblaaGreatDoorG39
set_option linter.all false
set_option maxHeartbeats 4000000
set_option maxRecDepth 100000
namespace Go.Proofs.YtndegphojkiblaaGreatDoor
noncomputable section
section
open Go.RowKit
namespace AI
theorem Vb:sL.ok sU:=by
 intro ls hl hp
 match ls,hl with
 | [l0,l1,l2],_=>
  have a1:=hp.fs ⟨3,0,9⟩ (by simp[sL]);have a2:=hp.fs ⟨5,0,4194304⟩ (by simp[sL]);have a3:=hp.fs ⟨8,0,1099511627776⟩ (by simp[sL]);have b1:=hp.rw (1,some cw) (by simp[sL]);have b2:=hp.rw (2,some qY) (by simp[sL]);have wH:∃v,qk [l0]=some [v]:=by
   obtain⟨o,h,hlen,_⟩:=Zb [l0] rfl ⟨fun f hf=> (by simp[Dx]at hf;rcases hf with rfl|rfl<;>simp[Fa.holds,bH]at a1⊢<;>omega),fun x hx=> (by cases hx),fun x hx=> (by cases hx),fun x hx=> (by cases hx)⟩
   match o,hlen with
   |[v],_=>exact⟨v,h⟩
  simp[Fa.holds,bH]at a2 a3;obtain⟨o,h1,b,rfl,h2⟩:=avJ l0 l1 l2 wH om om b1 b2
  cases b with
  |true=>
   obtain⟨h2,h3⟩:=h2 rfl;refine⟨_,h1,rfl,_,ek,⟨fun f hf=> ?_,fun x hx=> ?_,fun x hx=> ?_,fun x hx=> (by cases hx)⟩⟩
   · simp at hf;subst hf;simp[Fa.holds,bH];omega
   · simp at hx;subst hx;exact h3
   · simp at hx;subst hx;rfl
  |false=>
   refine⟨_,h1,rfl,_,fb _ ek,⟨fun f hf=> (by cases hf),fun x hx=> (by cases hx),fun x hx=> ?_,fun x hx=> (by cases hx)⟩⟩;simp at hx;subst hx;rfl
theorem axi (l0 l1:L) (h0:l0.af=6) (h1:l1.af=4):js [l0,l1]=some [.b true]:=by
 simp[js,Fo,Lg,ad.aa,Nd.ev,bF,At.ev,oY,DF,gn,h0,h1]
theorem aFp (l0 l1 l2:L) (h0:l0.af=6) (h1:l1.af=4) (h2:l2.ah.length=24):jw [l0,l1,l2]=some [.b true]:=by
 have w:IntKind.wrap .i64 24=24:=by decide
 simp[jw,Fo,GU,ad.aa,Nd.ev,bF,At.ev,oY,DF,gn,h0,h1,h2,axi,w]
def Aa:List AC:=[.sl 262208 cw]
theorem aqb {rows:List (List PV)} (h:AC.rows cw rows):rows.all (·.all PV.bare)=true:=bk.2 fun r hr=>AC.MR (cs:=cw) rfl (h r hr)
theorem Xf {r:List PV} (h:AC.dp Aa r):∃q,r=[.sl q]∧q.length≤262208∧AC.rows cw q:=by
 match r,h with
 |[x],h=>
  obtain⟨⟨q,h1,h2,h3⟩,_⟩:=(show AC.ok (.sl 262208 cw) x∧AC.dp [] []from h)
  exact⟨q,by rw[h1],om,h3⟩
theorem aqu (l0 l1 l2 l3:L) (n:Nat) (h0:l0.af=6) (h1:l1.af=4) (h2:l2.ah.length=24) (r2:AC.rows cw l2.ah) (h3:l3.ah.length=4) (hp:∀r∈l3.ah,∃q,r=[.sl q]∧q.length=n) (r3:AC.rows Aa l3.ah)
   (kM:∀a b c:L,b.ah.length≤262208→AC.rows cw a.ah→AC.rows cw b.ah→∃e o,uF [a,b,c]=some [e,o]∧o.ah.length≤262208∧AC.rows cw o.ah):
   ∃o,wR [l0,l1,l2,l3]=some o∧∃rows,o=[.i 0,.r rows]∧rows.length=6∧AC.rows Aa rows:=by
 have hv:=aFp l0 l1 l2 h0 h1 h2;refine iS ?_;unfold PY;simp[Fo,dZ,ck,b_,cu,Nd.ev,bF,cr,dA,At.ev,d6,d7,d8,e0,d9,cD,cP,b8,bp,Kd.pv,bC,cj,d1,d2,d3,d4,d5,aJ,hv,h1,h3];refine wp_loop (I:=fun a=>∃i:Nat,a=[.i i]∧i≤4) (mu:=fun a=>match a with|[.i i]=>4-i.toNat|_=>0) (by exact⟨0,rfl,om⟩) ?_;rintro a ⟨i,rfl,e1⟩;have oC:0<l3.ah.length:=om;obtain⟨p,p1,p2⟩:=hp _ (b9 oC);have p3:p.length≤262208:=by
   obtain⟨q,q1,q2,q3⟩:=Xf (r3 _ (b9 oC));rw[p1]at q1;cases q1;exact q2
 by_cases hi:i<4
 · have hi':i<l3.ah.length:=om;obtain⟨q,q1,q2⟩:=hp _ (b9 hi');have w:IntKind.wrap .i64 ((i:Int)+1)=(i:Int)+1:=wrap64 om om;have kI:(i:Int)<4:=om;simp[Fo,dZ,ck,b_,cu,Nd.ev,bF,cr,dA,At.ev,d6,d7,d8,e0,d9,cD,cP,b8,bp,Kd.pv,bC,cj,d1,d2,d3,d4,d5,aJ,h3,hi,kI,hi',oC,q1,p1,Kd.of,q2,p2,w];exact⟨⟨i+1,om,om⟩,om⟩
 have kI:¬(i:Int)<4:=om;simp[Fo,dZ,ck,b_,cu,Nd.ev,bF,cr,dA,At.ev,d6,d7,d8,e0,d9,cD,cP,b8,bp,Kd.pv,bC,cj,d1,d2,d3,d4,d5,aJ,h3,hi,kI];refine wp_loop (I:=fun a=>∃(i:Nat) (rows:List (List PV)),a=[.i i,.r rows]∧i≤6∧rows.length=i∧AC.rows Aa rows) (mu:=fun a=>match a with|[.i i,_]=>6-i.toNat|_=>0) (by exact⟨0,[],rfl,om,rfl,fun r hr=>by cases hr⟩) ?_;rintro a ⟨i,rows,rfl,e1,e2,e3⟩;by_cases hi:(i:Int)<6;rotate_left
 · have:i=6:=om;simp[Fo,dZ,ck,b_,cu,Nd.ev,bF,cr,dA,At.ev,d6,d7,d8,e0,d9,cD,cP,b8,bp,Kd.pv,bC,cj,d1,d2,d3,d4,d5,aJ,h0,hi];exact⟨om,e3⟩
 have w:IntKind.wrap .i64 ((i:Int)+1)=(i:Int)+1:=wrap64 om om;have w4:IntKind.wrap .i64 ((i:Int)*4)=(i:Int)*4:=wrap64 om om;have n1:n≤9223372036854775807:=om;have n2:n≤281474976710656:=om;have n3:(n:Int)≤9223372036854775807:=om;simp[Fo,dZ,ck,b_,cu,Nd.ev,bF,cr,dA,At.ev,d6,d7,d8,e0,d9,cD,cP,b8,bp,Kd.pv,bC,cj,d1,d2,d3,d4,d5,aJ,h0,h1,hi,oC,p1,Kd.of,p2,n1,n2,n3];refine wp_loop (I:=fun a=>∃(k:Nat) (row:L),a=[.i k,row]∧k≤4∧row.ah.length≤262208∧AC.rows cw row.ah) (mu:=fun a=>match a with|[.i k,_]=>4-k.toNat|_=>0) (by exact⟨0,.r (List.replicate n [.sc (.int .u8 0)]),rfl,om,by simp only[mA,pZ];omega,fun r hr=>by
   rw[aiS hr];exact⟨⟨0,rfl,om,om⟩,trivial⟩⟩) ?_
 rintro a ⟨k,row,rfl,f1,f2,f3⟩;by_cases hk:(k:Int)<4
 · have eD:k<l3.ah.length:=om;obtain⟨q,q1,q2,q3⟩:=Xf (r3 _ (b9 eD));have w2:IntKind.wrap .i64 ((i:Int)*4+(k:Int))=(i:Int)*4+(k:Int):=wrap64 om om;have w3:IntKind.wrap .i64 ((k:Int)+1)=(k:Int)+1:=wrap64 om om;have hm:i*4+k<l2.ah.length:=om;obtain⟨m,m1,_,_⟩:=agS (r2 _ (b9 hm));obtain⟨e,o,k1,k2,k3⟩:=kM row (.r q) (.i m) (by rw[mA];exact q2) f3 (by rw[mA];exact q3);have hb:∀r∈o.ah,∀x∈r,x.bare=true:=by
    have:=aqb k3;simpa[bk]using this
   have hmz:((i:Int)*4+(k:Int)).toNat=i*4+k:=om;have tK:(0:Int)≤(i:Int)*4+(k:Int):=om;simp[Fo,dZ,ck,b_,cu,Nd.ev,bF,cr,dA,At.ev,d6,d7,d8,e0,d9,cD,cP,b8,bp,Kd.pv,bC,cj,d1,d2,d3,d4,d5,aJ,h1,hk,eD,q1,Kd.of,w4,w2,hm,hmz,tK,m1,k1,w3];rw[au hb];simp;exact⟨⟨k+1,o,⟨om,rfl⟩,om,k2,k3⟩,om⟩
 · have n4:rows.length≤9223372036854775806:=om;have n5:(rows.length+1)*24≤140737488355328:=om;have n6:bA 1 rows=true:=AC.vD (cs:=Aa) e3;have n7:bA 1 [[PV.sl row.ah]]=true:=rfl;simp[Fo,dZ,ck,b_,cu,Nd.ev,bF,cr,dA,At.ev,d6,d7,d8,e0,d9,cD,cP,b8,bp,Kd.pv,bC,cj,d1,d2,d3,d4,d5,aJ,h1,hk,n4,n5,n6,n7,w];refine⟨⟨i+1,_,⟨om,rfl⟩,om,by simp[e2],xV e3 fun r hr=> ?_⟩,om⟩;rw[eS.1 hr];exact⟨⟨_,rfl,om,f3⟩,trivial⟩
def mv:aO:=⟨4,2,{fs:=[⟨1,0,6⟩,⟨0,1,-6⟩,⟨4,0,4⟩,⟨0,4,-4⟩,⟨8,0,24⟩,⟨0,8,-24⟩,⟨11,0,4⟩,⟨0,11,-4⟩],rw:=[(2,some cw),(3,some [.sl 262208 cw])],pr:=[(0,[3])]},[{fs:=[⟨13,0,0⟩,⟨0,13,0⟩,⟨17,0,6⟩,⟨0,17,-6⟩],rw:=[(5,some [.sl 262208 cw])]}]⟩
theorem aAz:mv.ok wR:=by
 intro ls hl hp
 match ls,hl with
 | [l0,l1,l2,l3],_=>
  have a1:=hp.fs ⟨1,0,6⟩ (by simp[mv]);have a2:=hp.fs ⟨0,1,-6⟩ (by simp[mv]);have a3:=hp.fs ⟨4,0,4⟩ (by simp[mv]);have a4:=hp.fs ⟨0,4,-4⟩ (by simp[mv]);have a5:=hp.fs ⟨8,0,24⟩ (by simp[mv]);have a6:=hp.fs ⟨0,8,-24⟩ (by simp[mv]);have a7:=hp.fs ⟨11,0,4⟩ (by simp[mv]);have a8:=hp.fs ⟨0,11,-4⟩ (by simp[mv]);have b1:=hp.rw (2,some cw) (by simp[mv]);have b2:=hp.rw (3,some [.sl 262208 cw]) (by simp[mv]);obtain⟨n,b3⟩:=hp.pr (0,[3]) (by simp[mv]);simp[Fa.holds,bH]at a1 a2 a3 a4 a5 a6 a7 a8;have kM:∀a b c:L,b.ah.length≤262208→AC.rows cw a.ah→AC.rows cw b.ah→∃e o,uF [a,b,c]=some [e,o]∧o.ah.length≤262208∧AC.rows cw o.ah:=fun a b c g1 g2 g3=>by
    obtain⟨o,h,hlen,T,hT,aX⟩:=arU [a,b,c] rfl ⟨fun f hf=> (by simp[FJ]at hf;rcases hf with rfl|rfl<;>simp[Fa.holds,bH];omega),fun x hx=> (by simp[FJ]at hx;rcases hx with rfl|rfl;exact g2;exact g3),fun x hx=> (by cases hx),fun x hx=> (by cases hx)⟩
    match o,hlen with
    | [e,o],_=>
     refine⟨e,o,h,?_⟩;simp only[FJ,cU,lS,or_false]at hT;rcases hT with rfl|rfl
     · have:=aX.rw (4,none) (by simp);have this:o.ah=[]:=this;rw[this];exact⟨by simp,fun r hr=>by cases hr⟩
     · have h1:=aX.fs ⟨14,0,262208⟩ (by simp);have h2:=aX.rw (4,some cw) (by simp[cw]);simp[Fa.holds,bH]at h1;exact⟨om,h2⟩
  obtain⟨o,h1,rows,rfl,h2,h3⟩:=aqu l0 l1 l2 l3 n om om om b1 om b3 b2 kM;refine⟨_,h1,rfl,_,eS.2 rfl,⟨fun f hf=> ?_,fun x hx=> ?_,fun x hx=> (by cases hx),fun x hx=> (by cases hx)⟩⟩
  · simp at hf;rcases hf with rfl|rfl|rfl|rfl<;>simp[Fa.holds,bH,mA,oY,h2]
  · simp at hx;subst hx;exact h3
end AI
end
section
namespace Pl
structure Mp where
 st:Nat→List It
 live:Int
 aJw:Int
theorem aut {l:List It} (h:jR l) (lo hi:Int) (hk:∀x∈l,lo≤x.key∧x.key<hi):(l.length:Int)≤max 0 (hi-lo):=by
 induction l generalizing lo with
 |nil=>simp;omega
 |cons a l ih=>
  have h':=IW.1 h;have ha:=hk a (by simp);have:=ih h'.2 (a.key+1) fun x hx=> ⟨by have:=h'.1 x hx;omega,(hk x (by simp[hx])).2⟩
  simp only[km];omega
structure Gn where
 num:Int
 rev:Int
 mode:Int
 size:Int
 map:Mp
end Pl
end
section
open Go.RowKit Pl
def cd (x:It):List It→Nat
 |[]=>0
 |a::l=>if a.key<x.key then cd x l+1 else 0
theorem YM (x:It):∀l:List It,cd x l≤l.length
 |[]=>cT _
 |a::l=>by
  have:=YM x l;simp only[cd,km];split<;>omega
theorem aaP {x:It}:∀{l:List It} {k:Nat} (h:k<cd x l),∃y,l[k]? =some y∧y.key<x.key
 |[],k,h=>absurd h (qb k)
 |a::l,k,h=>by
  simp only[cd]at h;split at h
  · rename_i ha
    cases k with
    |zero=>exact⟨a,rfl,ha⟩
    |succ k=>exact aaP (l:=l) (k:=k) om
  · omega
theorem Vt {x:It}:∀{l:List It} {y:It},l[cd x l]? =some y→¬y.key<x.key
 |[],y,h=>by cases h
 |a::l,y,h=>by
  simp only[cd]at h;split at h
  · exact Vt (l:=l) (by simpa using h)
  · rename_i ha;cases h;exact ha
theorem TQ (x:It):∀l:List It,ins x l=l.take (cd x l)++x::(match l.drop (cd x l)with|y::r=>if y.key=x.key then r else y::r|[]=> [])
 |[]=>rfl
 |a::l=>by
  simp only[cd,ins];split
  · simp only[aiG,List.drop_succ_cons,fv];rw[TQ x l]
  · simp only[List.take_zero,rW,fa];split<;>rfl
theorem JQ (x:It):∀l:List It,(ins x l).length≤l.length+1
 |[]=>cT _
 |a::l=>by
  have:=JQ x l;simp only[ins];split
  · simp only[km];omega
  · split<;>simp only[km]<;>omega
namespace AI
theorem akB (l0:L) (l:List It) (hr:l0.ah=l.map aU) (hn:l.length≤1000000):∃o,vG [l0]=some o∧o=[.r ((vx l).map aU)]:=by
 have hlen:l0.ah.length=l.length:=by rw[hr,ax]
 refine iS ?_;unfold Yw;simp only[cu];refine wp_loop (I:=fun a=>∃(i:Nat) (out:List It),a=[.i i,.r (out.map aU)]∧i≤l.length∧out.length≤i∧vx l=(l.drop i).foldl (fun out x=>ins x out) out) (mu:=fun a=>match a with|[.i i,_]=>l.length-i.toNat|_=>0) (by exact⟨0,[],rfl,om,by simp,by simp[vx]⟩) ?_;rintro a ⟨i,out,rfl,e1,e2,e3⟩;by_cases hi:i<l.length;rotate_left
 · have hi':¬(i:Int)< (l0.ah.length:Int):=om;have:l.drop i=[]:=uk om;rw[this]at e3;simp only[List.foldl_nil]at e3;simp[jm,jL,jT,ka,jG,jK,jt,jN,iA,jJ,jV,kp,kx,ke,jZ,jU,jI,ju,jP,kz,kA,fi,ck,b_,cu,bF,cr,At.ev,d6,d7,d8,e0,d9,cD,cP,b8,bp,Kd.pv,Kd.of,bC,cj,d1,d2,d3,d4,d5,aJ,hlen,hi,e3]
 have hi0:i<l0.ah.length:=om;have hx:l0.ah[i]=aU l[i]:=by
   have:l0.ah[i]? =some (aU l[i]):=by rw[hr,bO,bX hi];rfl
   rw[bX hi0]at this;exact p9 this
 have hd:l.drop i=l[i]::l.drop (i+1):=zF hi;rw[hd]at e3;simp only[aiA]at e3;generalize l[i]=x at hx e3;unfold aU at hx;simp[jm,jL,jT,ka,jG,jK,jt,jN,iA,jJ,jV,kp,kx,ke,jZ,jU,jI,ju,jP,kz,kA,fi,ck,b_,cu,bF,cr,At.ev,d6,d7,d8,e0,d9,cD,cP,b8,bp,Kd.pv,Kd.of,bC,cj,d1,d2,d3,d4,d5,aJ,hlen,hi];refine wp_loop (I:=fun a=>∃k:Nat,a=[.i k]∧k≤cd x out) (mu:=fun a=>match a with|[.i k]=>out.length-k.toNat|_=>0) (by exact⟨0,rfl,om⟩) ?_;rintro a ⟨k,rfl,f1⟩;have hc:=YM x out;by_cases hk:k<cd x out
 · obtain⟨y,y1,y2⟩:=aaP hk;have eD:k<out.length:=om;have y1':out[k]=y:=p9 ((bX eD).symm.trans y1);have w:IntKind.wrap .i64 ((k:Int)+1)=(k:Int)+1:=AI.wrap64 om om;simp[jm,jL,jT,ka,jG,jK,jt,jN,iA,jJ,jV,kp,kx,ke,jZ,jU,jI,ju,jP,kz,kA,fi,ck,b_,cu,bF,cr,At.ev,d6,d7,d8,e0,d9,cD,cP,b8,bp,Kd.pv,Kd.of,bC,cj,d1,d2,d3,d4,d5,aJ,eD,y1',aU,Kd.of,hi0,hx,y2,w];exact⟨⟨k+1,om,om⟩,om⟩
 have bR:k=cd x out:=om;subst bR;have il:=TQ x out;have pK:=JQ x out;have hR:=sO out;have hh:=nT hR;have w:IntKind.wrap .i64 ((i:Int)+1)=(i:Int)+1:=AI.wrap64 om om;have hN:bA 4 []=true:=rfl;have zi:bA 4 (List.take (cd x out) (out.map aU))=true:=by rw[←p8];exact sO _
 have hL:bA 4 [[PV.sc (.int .u64 x.key),PV.sc (.int .u32 x.cookie),PV.sc (.int .i64 x.off),PV.sc (.int .i64 x.size)]]=true:=rfl;have n1:out.length≤9223372036854775806:=om;have n2:(out.length+1)*32≤140737488355328:=om;have n3:out.length+1≤9223372036854775807:=om;have IA:bA 4 (List.take (cd x out) (out.map aU)++ [[PV.sc (.int .u64 x.key),PV.sc (.int .u32 x.cookie),PV.sc (.int .i64 x.off),PV.sc (.int .i64 x.size)]])=true:=by
   have:=sO (out.take (cd x out)++ [x]);rw[ej,p8]at this;exact this
 by_cases eD:cd x out<out.length
 · have hdr:out.drop (cd x out)=out[cd x out]::out.drop (cd x out+1):=zF eD;have wy:=Vt (bX eD);rw[hdr]at il;simp only at il;have air:List.drop (cd x out) (out.map aU)=aU out[cd x out]::(out.drop (cd x out+1)).map aU:=by rw[←p7,hdr,bC]
   generalize hy:out[cd x out]=y at wy il air hdr;have lN:bA 4 (aU y::(out.drop (cd x out+1)).map aU)=true:=sO (y::out.drop (cd x out+1));have zt:=nT lN;have hld:(out.drop (cd x out+1)).length=out.length- (cd x out+1):=fw;have eZ:List.take (out.length-cd x out) (List.drop (cd x out) (out.map aU))=aU y::(out.drop (cd x out+1)).map aU:=by
     rw[ir (by rw[fw,ax];omega),air]
   have hrl:(List.drop (cd x out+1) out).length=out.length-cd x out-1:=by rw[fw];omega
   have IB:List.take (out.length-cd x out-1) ((out.drop (cd x out+1)).map aU)=(out.drop (cd x out+1)).map aU:=ir (by rw[ax];omega);have q1:out.length≤9223372036854775807+cd x out:=om;have q2:(out.length-cd x out)*32≤140737488355328:=om;have q3:0<out.length-cd x out:=om;have q4:cd x out≤9223372036854775806:=om;have q5:(cd x out+1)*32≤140737488355328:=om;have q6:cd x out+1+(out.length-cd x out-1)≤9223372036854775807:=om;have q7:(cd x out+1+(out.length-cd x out-1))*32≤140737488355328:=om;have q8:(1:Int)≤((out.length-cd x out:Nat):Int):=om;have q9:cd x out+1+(out.length-cd x out)≤9223372036854775807:=om;have GM:(cd x out+1+(out.length-cd x out))*32≤140737488355328:=om;have g_:=sO (out.drop (cd x out+1));by_cases IC:y.key=x.key
   · rw[au IC]at il;have ue:(ins x out).map aU=List.take (cd x out) (out.map aU)++ [PV.sc (.int .u64 x.key),PV.sc (.int .u32 x.cookie),PV.sc (.int .i64 x.off),PV.sc (.int .i64 x.size)]::(out.drop (cd x out+1)).map aU:=by
      rw[il,ej,p8,bC];rfl
     generalize (out.drop (cd x out+1))=r at eZ IB hrl g_ lN zt ue;simp only[aU]at eZ lN zt;have Ie:List.take r.length (r.map aU)=r.map aU:=ir (by rw[ax];exact cT _);simp[jm,jL,jT,ka,jG,jK,jt,jN,iA,jJ,jV,kp,kx,ke,jZ,jU,jI,ju,jP,kz,kA,fi,ck,b_,cu,bF,cr,At.ev,d6,d7,d8,e0,d9,cD,cP,b8,bp,Kd.pv,Kd.of,bC,cj,d1,d2,d3,d4,d5,aJ,eD,hy,aU,hi0,hx,wy,hh,hN,hc,eZ,lN,zt,IB,g_,zi,IA,hL,q1,q2,q3,q4,q5,q6,q7,q8,IC,w,Ie]
     and_intros
     all_goals first|omega|assumption|exact⟨i+1,ins x out,⟨om,ue.symm⟩,om,om,e3⟩|trace_state
   · rw[aE IC]at il;have ue:(ins x out).map aU=List.take (cd x out) (out.map aU)++ [PV.sc (.int .u64 x.key),PV.sc (.int .u32 x.cookie),PV.sc (.int .i64 x.off),PV.sc (.int .i64 x.size)]::aU y::(out.drop (cd x out+1)).map aU:=by
      rw[il,ej,p8,bC];rfl
     generalize (out.drop (cd x out+1))=r at eZ IB hrl g_ lN zt ue;simp only[aU]at eZ lN zt ue;simp[jm,jL,jT,ka,jG,jK,jt,jN,iA,jJ,jV,kp,kx,ke,jZ,jU,jI,ju,jP,kz,kA,fi,ck,b_,cu,bF,cr,At.ev,d6,d7,d8,e0,d9,cD,cP,b8,bp,Kd.pv,Kd.of,bC,cj,d1,d2,d3,d4,d5,aJ,eD,hy,aU,hi0,hx,wy,hh,hN,hc,eZ,lN,zt,IB,g_,zi,IA,hL,q1,q2,q3,q4,q5,q6,q7,q8,q9,GM,IC,w]
     and_intros<;>first|omega|exact⟨i+1,ins x out,⟨om,ue.symm⟩,om,om,e3⟩
 · have pN:cd x out=out.length:=om;rw[uk om]at il;simp only at il;rw[pN]at il zi IA⊢;have ue:(ins x out).map aU=List.take out.length (out.map aU)++ [[PV.sc (.int .u64 x.key),PV.sc (.int .u32 x.cookie),PV.sc (.int .i64 x.off),PV.sc (.int .i64 x.size)]]:=by
     rw[il,ej,p8];rfl
   simp[jm,jL,jT,ka,jG,jK,jt,jN,iA,jJ,jV,kp,kx,ke,jZ,jU,jI,ju,jP,kz,kA,fi,ck,b_,cu,bF,cr,At.ev,d6,d7,d8,e0,d9,cD,cP,b8,bp,Kd.pv,Kd.of,bC,cj,d1,d2,d3,d4,d5,aJ,hi0,hx,Kd.of,hh,hN,zi,hL,w,n1,n2,n3,IA];exact⟨⟨i+1,ins x out,⟨om,ue.symm⟩,om,om,e3⟩,om⟩
theorem Wo:∀(l out:List It),(l.foldl (fun out x=>ins x out) out).length≤l.length+out.length
 |[],out=>by simp
 |x::l,out=>by
  have h1:=Wo l (ins x out);have h2:=JQ x out;simp only[aiA,km];omega
theorem aBZ (l:List It):(vx l).length≤l.length:=by
 have:=Wo l [];simpa[vx]using this
def BL:List AC:=[.int .u64 0 7,.int .u32 0 3,.int .i64 16 1048576,.int .i64 0 30]
def abl (x:It):Prop:=(0≤x.key∧x.key≤7)∧(0≤x.cookie∧x.cookie≤3)∧(16≤x.off∧x.off≤1048576)∧(0≤x.size∧x.size≤30)
theorem ade:∀{rows:List (List PV)},AC.rows BL rows→∃l:List It,rows=l.map aU∧∀x∈l,abl x
 |[],_=> ⟨[],rfl,fun x hx=>by cases hx⟩
 | r::rows,h=>by
  obtain⟨l,rfl,h3⟩:=ade (rows:=rows) fun r hr=>h r (fb _ hr)
  have h0:=h r ek;have hlen:=AC.uJ h0
  match r,hlen,h0 with
  |[q0,q1,q2,q3],_,h0=>
   obtain⟨⟨a,rfl,a1,a2⟩,⟨b,rfl,b1,b2⟩,⟨c,rfl,c1,c2⟩,⟨d,rfl,d1,d2⟩,_⟩:=h0;refine⟨⟨a,b,c,d⟩::l,rfl,fun x hx=> ?_⟩;rcases cU.1 hx with rfl|hx
   · exact⟨⟨a1,a2⟩,⟨b1,b2⟩,⟨c1,c2⟩,⟨d1,d2⟩⟩
   · exact h3 x hx
theorem aor {l:List It} (h:∀x∈l,abl x):AC.rows BL (l.map aU):=fun r hr=>by
 obtain⟨x,hx,rfl⟩:=dy.1 hr;obtain⟨⟨a1,a2⟩,⟨b1,b2⟩,⟨c1,c2⟩,⟨d1,d2⟩⟩:=h x hx;exact⟨⟨_,rfl,a1,a2⟩,⟨_,rfl,b1,b2⟩,⟨_,rfl,c1,c2⟩,⟨_,rfl,d1,d2⟩,trivial⟩
def vm:aO:=⟨1,1,⟨[⟨2,0,64⟩,⟨0,2,0⟩],[(0,some BL)],[],[]⟩,[⟨[⟨5,2,0⟩,⟨5,0,8⟩,⟨0,5,0⟩],[(1,some BL)],[],[]⟩]⟩
theorem GS:vm.ok vG:=by
 intro ls hl hp
 match ls,hl with
 | [l0],_=>
  have a1:=hp.fs ⟨2,0,64⟩ (by simp[vm]);have b1:=hp.rw (0,some BL) (by simp[vm]);simp[Fa.holds,bH]at a1;obtain⟨l,h1,h2⟩:=ade (rows:=l0.ah) b1;have hn:l.length≤64:=by rw[h1,ax]at a1;omega
  obtain⟨o,h3,rfl⟩:=akB l0 l h1 om;have k1:=aBZ l;have k2:=aut (aws l) 0 8 fun x hx=>by have:=(h2 x (Yu hx)).1;omega
  refine⟨_,h3,rfl,_,eS.2 rfl,⟨fun f hf=> ?_,fun x hx=> ?_,fun x hx=> (by cases hx),fun x hx=> (by cases hx)⟩⟩
  · simp at hf;rcases hf with rfl|rfl|rfl<;>simp[Fa.holds,bH,mA,h1]<;>omega
  · simp at hx;subst hx;exact aor fun x hx=>h2 x (Yu hx)
end AI
end
end
end Go.Proofs.YtndegphojkiblaaGreatDoor
