/- A part of the proof. -/
import Derived.Test.YtndegphojkiblaaGreatDoorG12
set_option linter.all false
set_option maxHeartbeats 4000000
set_option maxRecDepth 100000
namespace Go.Proofs.YtndegphojkiblaaGreatDoor
noncomputable section
section
open Go.RowKit
namespace AI
theorem mapM_mem {α β:Type} {g}:∀{l:List α} {ys} {y:β},l.mapM g=some ys→y∈ys→∃x∈l,g x=some y
 |[],ys,y,h,hy=>by simp_all
 | a::l,ys,y,h,hy=>by
  cases h1:g a with
  |none=>simp[h1]at h
  | some z=>
   cases h2:l.mapM g with
   |none=>simp[h1,h2]at h
   |some zs=>
    simp[h1,h2]at h;subst h;rcases dL.1 hy with rfl|hy
    · simp_all
    simp_all[mapM_mem]
theorem asN {τ1 τ2} {g1 g2 t} (h:τ1[g1]? =τ2[g2]?) (ht:t/3=g2):dP τ1 (3*g1+t%3+1)=dP τ2 (t+1):=by
 simp only[dP];rw[show(3*g1+t%3) /3=g1 by omega,show(3*g1+t%3)%3=t%3 by omega,h,ht]
theorem Ga.ext {S S'} {τ ρ} (h:Ga S τ ρ) {ats} {m} {T} (hx:S.ext ats m T=some S') {o} (ho:o.length=m) (hT:T.ok (ats.map (At.ev ρ)++o)):Ga S' (τ++o) (ρ++o):=by
 subst ho;unfold AS.ext at hx;simp only at hx;split at hx
 · rename_i fs CA;split at hx
   · injection hx with hx
     subst hx;have hn:=h.n;have hat:∀g,g<S.n→at' (τ++o) g=at' τ g:=fun g hg=>w5 om
     have ic:∀j,at' (τ++o) (S.n+j)=at' o j:=fun j=>by
      unfold at';rw[mh om];congr 2;omega
     have Oc:∀p,ats.length≤p→at' (ats.map (At.ev ρ)++o) p=at' o (p-ats.length):=fun p hp=>by
      unfold at';rw[mh (by simpa using hp)];simp
     have Ob:∀p,p<ats.length→at' (ats.map (At.ev ρ)++o) p=at' (ats.map (At.ev ρ)) p:=fun p hp=>w5 (by simpa using hp)
     have Hz:∀(t:Nat) (x:Li),(match t with
        |0=>some ((0,0):Li)
        |t+1=>if t/3<ats.length then S.tr ats (t+1)else some (3*(S.n+(t/3-ats.length))+t%3+1,0))=some x→dS (τ++o) x=dP (ats.map (At.ev ρ)++o) t:=fun t x ht=>by
      cases t with
      |zero=>cases ht;rfl
      | succ t=>
        simp only at ht;split at ht
        · obtain⟨e1,e2⟩:=h.tr ht;rw[qG e2,e1,EB];simp only[gJ,aA,dj];omega
        · cases ht;simp only[dS,Int.add_zero];refine asN ?_ rfl;rw[mh om,mh (by simp;omega)];congr 1;simp;omega
     have jG:∀(p g:Nat),(if p<ats.length then match ats[p]? with
        |some (.v i)=>S.env[i]?
        |_=>none
      else if p<ats.length+o.length then some (S.n+(p-ats.length))else none)=some g→g<S.n+o.length∧at' (τ++o) g=at' (ats.map (At.ev ρ)++o) p:=fun p g hp=>by
      split at hp
      · rename_i hlt;split at hp
        · rename_i i hi;have hg:=h.lt g (dn hp);refine⟨om,?_⟩;rw[hat g hg,Ob p hlt,I3 hi,h.ev,hp]
        · cases hp
      · split at hp
        · cases hp;exact⟨om,by rw[ic,Oc p om]⟩
        · cases hp
     exact{
      n:=by simp[hn]
      env :=by
        rw[h.env,dk];congr 1
        · exact fK fun g hg=> (hat g (h.lt g hg)).symm
        · apply zh;intro j;rw[gd,bV];by_cases hj:j<o.length
          · rw[wq hj,bW hj];simp only[aV,Function.comp];rw[ic j];simp[at',hj]
          simp_all
      lt:=fun g hg=>by
        rcases im.1 hg with hg|hg
        · have:=h.lt g hg;show g<S.n+o.length;omega
        · obtain⟨j,hj,rfl⟩:=fe.1 hg;have:=lJ.1 hj;show S.n+j<S.n+o.length;omega
      fs := fun f hf=>by
        rcases im.1 hf with hf|hf
        · refine⟨by simp_all,?_⟩;obtain⟨f0,hf0,he⟩:=mapM_mem CA hf;split at he
          · rename_i x y hx hy;cases he;refine acj ?_;rw[Hz _ _ hx,Hz _ _ hy];exact hT.fs f0 hf0
          · cases he
        · exact(h.fs f hf).append
      rw:=fun x hx=>by
        rcases im.1 hx with hx|hx
        · obtain⟨x0,hx0,he⟩:=tj.1 hx;simp only[aT]at he;obtain⟨g,hg,rfl⟩:=he;obtain⟨k1,k2⟩:=jG _ _ hg;exact⟨k1,by rw[k2];exact hT.rw x0 hx0⟩
        · obtain⟨h1,h2⟩:=h.rw x hx;exact⟨by show x.1<S.n+o.length;omega,by rw[hat _ h1];exact h2⟩
      cl:=fun x hx=>by
        obtain⟨h1,h2⟩:=h.cl x hx;exact⟨by show x.1<S.n+o.length;omega,by rw[hat _ h1];exact h2⟩
      bd:=fun x hx=>by
        rcases im.1 hx with hx|hx
        · obtain⟨x0,hx0,he⟩:=tj.1 hx;simp only[aT]at he;obtain⟨g,hg,rfl⟩:=he;obtain⟨k1,k2⟩:=jG _ _ hg;exact⟨k1,rfl,by rw[k2];exact hT.bs x0 hx0⟩
        · obtain⟨h1,h2,h3⟩:=h.bd x hx;exact⟨by show x.1<S.n+o.length;omega,BD.NB h2 (by simp_all),by rw[hat _ h1,BD.Jr (by rw[hn];exact h2)];exact h3⟩
      al:=fun x hx=>by
        obtain⟨h1,h2,h3⟩:=h.al x hx;exact⟨by show x.1<S.n+o.length;omega,sP h2 (by simp_all),by rw[hat _ h1,qG (by rw[hn];exact h2)];exact h3⟩
      ll:=fun x hx=>by
        obtain⟨h1,h2,h3⟩:=h.ll x hx;exact⟨by show x.1<S.n+o.length;omega,sP h2 (by simp_all),by rw[hat _ h1,qG (by rw[hn];exact h2)];exact h3⟩
      sm:=fun x hx=>by
        obtain⟨h1,h2,h3⟩:=h.sm x hx;exact⟨by show x.2<S.n+o.length;omega,J0 h2 (by simp_all),by rw[hat _ h1,IQ (by rw[hn];exact h2)];exact h3⟩
      pr := fun x hx=>by
        rcases im.1 hx with hx|hx
        · obtain⟨x0,hx0,he⟩:=tj.1 hx;simp only[aT]at he;obtain⟨gs,sY,rfl⟩:=he
          have key:∀(l gs:List Nat),l.mapM (fun p=>if p<ats.length then match ats[p]? with
             |some (.v i)=>S.env[i]?
             |_=>none
            else if p<ats.length+o.length then some (S.n+(p-ats.length))else none)=some gs→(∀g∈gs,g<S.n+o.length)∧gs.map (at' (τ++o))=l.map (at' (ats.map (At.ev ρ)++o)):=by
            intro l
            induction l with
            |nil=>simp_all
            |cons p l ih=>
             intro gs hg;simp only[rE,Option.bind_eq_bind,iu]at hg;obtain⟨g,hg1,gs',hg2,hg3⟩:=hg;cases hg3;obtain⟨k1,k2⟩:=jG _ _ hg1;obtain⟨k3,k4⟩:=ih gs' hg2;exact⟨fun g' hg'=>by rcases dL.1 hg' with rfl|hg';exact k1;exact k3 g' hg',by simp only[cu,k2,k4]⟩
          obtain⟨k1,k2⟩:=key _ _ sY;exact⟨k1,by rw[k2];exact hT.pr x0 hx0⟩
        · obtain⟨h1,h2⟩:=h.pr x hx;exact⟨fun g hg=> (by have:=h1 g hg;show g<S.n+o.length;omega),by rw[fK (g:=at' τ) fun g hg=>hat g (h1 g hg)];exact h2⟩}
   simp_all
 simp_all
structure sx where
 cY:Nat
 iF:Nat
 pre:oy
 cases:List oy
deriving Inhabited
def sx.ok (F:List L→Option (List L)) (s:sx):Prop:=∀ls,ls.length=s.cY→s.pre.ok ls→∃o,F ls=some o∧o.length=s.iF∧∃T∈s.cases,T.ok (ls++o)
def AC.bare:AC→Bool
 | .int .. =>true
 | .bool=>true
 | .str _=>true
 | .sl hi _=>decide (hi≤0)
 | .any=>false
def amh (T:oy) (p:Nat):Bool:=match lk T.rw p with
 |some none=>true
 |some (some cs)=>cs.all AC.bare
 |none=>false
def AS.aqQ (S:AS) (ats:List At) (T:oy):Bool:=T.fs.any fun f=>decide (f.a≤3*ats.length)&&decide (f.b≤3*ats.length)&&match S.tr ats f.a,S.tr ats f.b with
 |some x,some y=>alY S.fs x y f.c
 |_,_=>false
def kp (S:AS) (s:sx) (args:List At) (n:Nat) (us:List Nat):Option (List AS):=
 if args.length=s.cY∧n=s.iF∧S.cf args s.pre=true∧s.cases.all (fun T=>us.all fun u=>amh T (s.cY+u))=true then(s.cases.filter fun T=> !S.aqQ args T).mapM fun T=>S.ext args n T else none
end AI
end
section
open Go.RowKit
open Classical
def SC.clear (g:List Nat) (c:SC):SC:=if c.names.any (g.contains ·)then .dead else c
def SB.clear (g:List Nat):SB→SB
 | .box cs=> .box (cs.map (SC.clear g))
 |b=>b
def af.settle (S:af):af:=match S.ar with
 |[]=>S
 |g=> {S with tmps:=S.tmps.map (SV.ez (SC.clear g)),heap:=(S.heap.filter fun x=> !g.contains x.1).map fun x=> (x.1,x.2.clear g),ar:=[]}
theorem SC.D3 {ρ} {g} (c:SC):(c.clear g).aa ρ=(c.aa ρ).clear g:=by
 unfold SC.clear C.clear;rw[SC.ng];split<;>rfl
theorem adD {ρ} {f} {f'} (hf:∀c,(f c).aa ρ=f' (c.aa ρ)) (x:SV):(x.ez f).aa ρ=(x.aa ρ).on f':=by
 have h1:∀x:aF,(x.ez f).aa ρ=(x.aa ρ).on f':=by
  intro x
  cases x with
  |c c=>grind[aF.ez,aF.aa,V1.on]
  |agg cs=>simp_all[aF.ez,aF.aa,V1.on]
 cases x with
 |v x=>grind[SV.ez,SV.aa,V.on]
 |aj xs=>simp_all[SV.ez,SV.aa,V.on]
theorem SB.D3 {ρ} {g} (b:SB):(b.clear g).aa ρ=(b.aa ρ).on (C.clear g):=by
 cases b with
 |box cs=>simp only[SB.clear,SB.aa,dI.on,gd];congr 1;apply fK;intro c _;exact SC.D3 c
 |row=>rfl
 |map=>rfl
theorem QV {ρ} {S:af}:(S.settle).aa ρ=(S.aa ρ).settle:=by
 unfold af.settle av.settle;have hg:(S.aa ρ).ar=S.ar:=rfl;rw[hg]
 cases S.ar with
 |nil=>rfl
 |cons t U=>
  simp only[af.aa,av.mk.injEq,gd,and_true];refine⟨fK fun x _=>adD (fun c=>SC.D3 c) x,?_⟩;simp only[bY.aa,gd,List.filter_map];refine fK fun x _=> ?_
  simp only[Function.comp,SB.D3]
theorem Qi (S:af):S.settle.ar=[]:=by
 unfold af.settle;grind
theorem Uc (S:af):S.settle.nv=S.nv:=by
 unfold af.settle;split<;>rfl
def SC.in (m:Nat):SC→Bool
 | .p _ x=>x.in m
 | .sub _ a b=>a.in m&&b.in m
 | .gy _ _ _ _ i=>i.in m
 | .cE _ i _=>i.in m
 | .ref x _=>x.in m
 |_=>true
def aF.in (m:Nat):aF→Bool
 | .c x=>x.in m
 | .agg xs=>xs.all (SC.in m)
def SV.in (m:Nat):SV→Bool
 | .v x=>x.in m
 | .aj xs=>xs.all (aF.in m)
def SB.in (m:Nat):SB→Bool
 | .box cs=>cs.all (SC.in m)
 | .row _ x=>x.in m
 | .map x=>x.in m
def af.in (m:Nat) (S:af):Bool:=S.tmps.all (SV.in m)&&S.heap.all fun x=>x.2.in m
theorem SC.kA {m} {ρ ys} {c:SC} (h:c.in m=true) (hm:m≤ρ.length):c.aa (ρ++ys)=c.aa ρ:=by
 cases c<;>simp only[SC.in,bt]at h<;>simp only[SC.aa]<;>first
  |rfl
  | (rw[At.ep h hm];done)
  | (rw[At.ep h.1 hm,At.ep h.2 hm];done)
theorem aF.kA {m} {ρ ys} {x:aF} (h:x.in m=true) (hm:m≤ρ.length):x.aa (ρ++ys)=x.aa ρ:=by
 cases x with
 |c c=>simp only[aF.aa];rw[SC.kA h hm]
 |agg cs=>
  simp only[aF.in,bC]at h;simp only[aF.aa];congr 1;exact fK fun c hc=>SC.kA (h c hc) hm
theorem SV.kA {m} {ρ ys} {x:SV} (h:x.in m=true) (hm:m≤ρ.length):x.aa (ρ++ys)=x.aa ρ:=by
 cases x with
 |v x=>simp only[SV.aa];rw[aF.kA h hm]
 |aj xs=>
  simp only[SV.in,bC]at h;simp only[SV.aa];congr 1;exact fK fun c hc=>aF.kA (h c hc) hm
theorem SB.kA {m} {ρ ys} {b:SB} (h:b.in m=true) (hm:m≤ρ.length):b.aa (ρ++ys)=b.aa ρ:=by
 cases b with
 |box cs=>
  simp only[SB.in,bC]at h;simp only[SB.aa];congr 1;exact fK fun c hc=>SC.kA (h c hc) hm
 |row e x=>simp only[SB.aa];rw[At.ep h hm]
 |map x=>simp only[SB.aa];rw[At.ep h hm]
theorem af.kA {m} {ρ ys} {S:af} (h:S.in m=true) (hm:m≤ρ.length):S.aa (ρ++ys)=S.aa ρ:=by
 simp only[af.in,bt,bC]at h;simp only[af.aa,av.mk.injEq,and_true];refine⟨fK fun c hc=>SV.kA (h.1 c hc) hm,?_⟩;exact fK fun c hc=>by rw[SB.kA (h.2 c hc) hm]
def RT.vm (f:af→jR→Option ae):RT→Option ae
 | .ak S ts=>f S ts
 | .ops nds k=> (RT.vm f k).map fun k=>nds.foldr .op k
 | .ite a x y=>match RT.vm f x,RT.vm f y with
  |some x,some y=>some (.ite a x y)
  |_,_=>none
 | .stuck=>some (.op (.dD (.i 0) 0) (.ak (.jump 0 [])))
theorem Dx:∀{nds} {k} {ρ},(nds.foldr ae.op k).aa ρ=match p8 ρ nds with|some ρ'=>k.aa ρ'|none=>none
 |[],_,_=>rfl
 |nd::nds,k,ρ=>by
  simp only[List.foldr_cons,ae.aa,p8]
  cases nd.ev ρ with
  |none=>rfl
  |some ls=>exact Dx
theorem AQ {f:af→jR→Option ae}:∀{t:RT} {u:ae} {ρ:List L} {o:Lf×List L},t.vm f=some u→u.aa ρ=some o→∃S ts ρ' v,t.aa ρ=some ((S,ts),ρ')∧f S ts=some v∧v.aa ρ'=some o
 | .ak S ts,u,ρ,o,h,hd=> ⟨S,ts,ρ,u,rfl,h,hd⟩
 | .ops nds k,u,ρ,o,h,hd=>by
  simp only[RT.vm,aT]at h;obtain⟨v,hv,rfl⟩:=h;rw[Dx]at hd;split at hd
  · rename_i br he;obtain⟨S,ts,ρ',w,h1,h2,h3⟩:=AQ hv hd;grind[RT.aa]
  · cases hd
 | .stuck,u,ρ,o,h,hd=>by
  cases h;simp[ae.aa,Nd.ev,At.ev,L.ah]at hd
 | .ite a x y,u,ρ,o,h,hd=>by
  simp only[RT.vm]at h;split at h
  · rename_i u1 u2 h1 h2;cases h;simp only[ae.aa]at hd;split at hd
    · obtain⟨S,ts,ρ',w,k1,k2,k3⟩:=AQ h1 hd;grind[RT.aa]
    · obtain⟨S,ts,ρ',w,k1,k2,k3⟩:=AQ h2 hd;grind[RT.aa]
  · cases h
def dH (T:aU) (C:cK) (ops:Array Oper) (draw:Bool) (S:af):Option ae:=
 if S.in S.nv=true∧S.ar=[]∧(!draw||G6 ops)=true then
  (so T C S.next ops (4*ops.size+8) ops.toList 0 {S with next:=S.next+8*ops.size} []).bind fun t=>RT.vm (fun S' ts=>
   if(if draw then oG ops ts&&tL S.next ops ts else oH S.next 0 ts)=true then some (.ak (.st .normal S'.settle))else none) t
 else none
def Good (P:bB) (k0:Nat) (c:Code) (S:af) (ρ:List L) (x:Lf) (ρ':List L):Prop:=
 ∃e S',x= .st e S'∧S'.nv=ρ'.length∧(∃ys,ρ'=ρ++ys)∧S'.ar=[]∧∀X:Fx,X.P=P→X.k0=k0→∀Q:Exit→av→Prop,Q e.to (S'.aa ρ')→Aw X c Q (S.aa ρ)
theorem ayu {P} {T} {C} {k0} (hT:aU.ok P T) (hC:cK.ok P C) (hm:P.follows .mixedOrders=true) {id} {ops} {draw} {S} {u} {ρ ρ'} {x}
   (h:dH T C ops draw S=some u) (hl:ρ.length=S.nv) (hd:u.aa ρ=some (x,ρ')):Good P k0 (.region id ops draw) S ρ x ρ':=by
 unfold dH at h;split at h
 · rename_i hc;obtain⟨c_,hg,hf⟩:=hc;simp only[iu]at h;obtain⟨t,ht,h⟩:=h;obtain⟨S1,ts,br,v,k1,k2,k3⟩:=AQ h hd;have aO:(if draw then oG ops ts&&tL S.next ops ts else oH S.next 0 ts)=true:=by
     simp_all
   rw[ay aO]at k2
   · cases k2;cases k3;obtain⟨e1,⟨ys,e2⟩,rs,zb,Sp,e3,e4⟩:=uO hT hC ht (by exact hl) k1;subst e4;refine⟨.normal,S1.settle,rfl,by rw[Uc];exact e1,⟨ys,e2⟩,Qi S1,fun X vX CB Q hQ=> ?_⟩;have tc:S.aa ρ'=S.aa ρ:=by grind[af.kA]
     have hb:af.aa ρ' {S with next:=S.next+8*ops.size}=(S.aa ρ).bump ops.toList.length:=by
      simp_all[af.aa,av.bump]
     rw[hb]at e3;rw[QV]at hQ;have aCx:ops.toList.toArray=ops:=by simp
     subst vX
     cases draw with
     |false=>
      have:=uj (X:=X) (Sp:=Sp) (Q:=Q) (id:=id) (ops:=ops.toList) (st:=S.aa ρ) (rs:=rs) (ts:=ts) (by exact e3) aO hQ;omega
     |true=>
      simp only[if_true,bt]at aO;have:=ajU (X:=X) (Sp:=Sp) (Q:=Q) hm (id:=id) (ops:=ops.toList) (st:=S.aa ρ) (rs:=rs) (ts:=ts) (by simp_all) (by exact e3) (by simp_all) (by exact aO.2) hQ;omega
 · cases h
def At.par (aK:Nat) (as:List At):At→At
 | .v j=>if j<aK then .v j else(as[j-aK]?).getD (.b false)
 |x=>x
theorem At.Hc {aK} {as} {ρ ys} (hl:ρ.length=aK) (x:At):(x.par aK as).ev (ρ++ys)=x.ev (ρ++as.map (At.ev (ρ++ys))):=by
 cases x with
 |v j=>
  simp only[At.par];split
  · simp only[At.ev];grind
  · simp only[At.ev];rw[mh om,hl,bV];cases as[j-aK]? <;>rfl
 |_=>rfl
abbrev iW:=List (Nat×At×At×At)
def DB (D:iW) (S:af) (aK:Nat) (as:List At) (ι:Ren) (Z:List Nat):SC→SC→Bool
 |_,.dead=>true
 | .p k x,.p k' y=>decide (k=k')&& (y.par aK as).same x
 | .nil,.p .sl y=> (y.par aK as).same .r0
 | .sub n a b,.p .sl y=> !ι.old.contains n&&D.any fun z=>z.1==n&&z.2.1.same a&&z.2.2.1.same b&& (y.par aK as).same z.2.2.2
 | .own n,.p .sl y=>match List.lookup n S.heap with
  |some (.row _ x)=> (y.par aK as).same x&& !ι.old.contains n
  |_=>false
 | .nil,.nil=>true
 | .nil,.own n'=>Z.contains n'
 | .nil,.sub n' (.i 0) (.i 0)=>Z.contains n'
 | .own n,.own n'=>List.lookup n ι==some n'
 | .sub n a b,.sub n' a' b'=>List.lookup n ι==some n'&& (a'.par aK as).same a&& (b'.par aK as).same b
 | .ptr n o,.ptr n' o'=>List.lookup n ι==some n'&&o==o'
 | .gy n o c m i,.gy n' o' c' m' i'=>List.lookup n ι==some n'&&o==o'&&c==c'&&m==m'&& (i'.par aK as).same i
 | .cE n i j,.cE n' i' j'=>List.lookup n ι==some n'&& (i'.par aK as).same i&&j==j'
 | .ref x j,.ref x' j'=> (x'.par aK as).same x&&j==j'
 | .fn f ns,.fn f' eu=>f==f'&&ns.map (fun n=>List.lookup n ι)==eu.map some
 | .mp n,.mp n'=>List.lookup n ι==some n'
 |_,_=>false
theorem u4 {ι:Ren} {n n'} (h:(List.lookup n ι==some n')=true):ι.to n=n'∧n∈ι.old:=by
 have h':List.lookup n ι=some n':=by simpa using h
 refine⟨by simp[Ren.to,h'],?_⟩;clear h
 induction ι with
 |nil=>cases h'
 |cons x ι ih=>
  grind[Ren.old]
section
variable {D:iW} {S:af} {aK:Nat} {as:List At} {ι:Ren} {Z:List Nat} {ρ ys:List L}
def iW.ok (D:iW) (S:af) (ρ:List L):Prop:=∀z∈D,(S.aa ρ).view ((SC.sub z.1 z.2.1 z.2.2.1).aa ρ)=some (z.2.2.2.ev ρ).az
theorem Uz (hl:ρ.length=aK) (hD:D.ok S (ρ++ys)) {c c'} (h:DB D S aK as ι Z c c'=true):Ca (S.aa (ρ++ys)) ι Z (c.aa (ρ++ys)) (c'.aa (ρ++as.map (At.ev (ρ++ys)))):=by
 have same:∀{x y:At},(y.par aK as).same x=true→y.ev (ρ++as.map (At.ev (ρ++ys)))=x.ev (ρ++ys):=fun hs=>by rw[←At.Hc hl,At.lW hs]
 unfold DB at h;split at h
 · cases c<;>trivial
 · simp only[bt,dj]at h;obtain⟨rfl,h2⟩:=h;exact .inl (by grind[SC.aa])
 · exact .inr ⟨[],by simp only[Kd.pv,same h];rfl,rfl,fun k hk=>by simp[SC.aa,C.names]at hk⟩
 · simp only[bt,pN,CV,zg,Pv,beq_iff_eq]at h;obtain⟨h1,⟨m,a',b',z⟩,h2,⟨⟨h3,h4⟩,h5⟩,h6⟩:=h;simp only at h3 h4 h5 h6;subst h3;have hv:=hD _ h2;simp only[SC.aa,At.lW h4,At.lW h5]at hv;refine .inr ⟨(z.ev (ρ++ys)).az,by grind[Kd.pv],hv,fun k hk=> ?_⟩;simp_all[SC.aa,C.names]
 · split at h
   · rename_i e x hx;simp only[bt,pN,CV,zg]at h;refine .inr ⟨(x.ev (ρ++ys)).az,by grind[Kd.pv],by grind[SC.aa,av.view,dE,SB.aa],fun k hk=> ?_⟩;simp_all[SC.aa,C.names]
   · cases h
 · exact⟨rfl,by simp[SC.aa,C.names]⟩
 · rename_i n';exact(by simpa using h:n'∈Z)
 · rename_i n';exact⟨(by simpa using h:n'∈Z),rfl,rfl⟩
 · obtain⟨h1,h2⟩:=u4 h;exact⟨by grind[SC.aa,C.cR],by grind[SC.aa,C.names]⟩
 · simp only[bt]at h;obtain⟨h1,h2⟩:=u4 h.1.1;exact⟨by grind[SC.aa,C.cR],by grind[SC.aa,C.names]⟩
 · simp only[bt]at h;obtain⟨h1,h2⟩:=u4 h.1;exact⟨by simp_all[SC.aa,C.cR],by grind[SC.aa,C.names]⟩
 · simp only[bt]at h;obtain⟨h1,h2⟩:=u4 h.1.1.1.1;have h3:=h.1.1.1.2;have h4:=h.1.2;simp only[beq_iff_eq]at h3 h4;exact⟨by grind[SC.aa,C.cR],by grind[SC.aa,C.names]⟩
 · simp only[bt]at h;obtain⟨h1,h2⟩:=u4 h.1.1;have h3:=h.2;simp only[beq_iff_eq]at h3;exact⟨by grind[SC.aa,C.cR],by grind[SC.aa,C.names]⟩
 · simp only[bt,beq_iff_eq]at h;exact⟨by grind[SC.aa,C.cR],by simp[SC.aa,C.names]⟩
 · rename_i f ns f' eu;simp only[bt,beq_iff_eq]at h;obtain⟨rfl,h2⟩:=h;have h3:eu=ns.map ι.to∧∀m∈ns,m∈ι.old:=by
     induction ns generalizing eu with
     |nil=>simp_all
     | cons m ms ih=>
      cases eu with
      |nil=>simp at h2
      |cons n ns=>
       simp_all[u4]
   exact⟨by simp_all[SC.aa,C.cR],by simp_all[SC.aa,C.names]⟩
 · obtain⟨h1,h2⟩:=u4 h;exact⟨by grind[SC.aa,C.cR],by grind[SC.aa,C.names]⟩
 · cases h
def BC (D:iW) (S:af) (aK:Nat) (as:List At) (ι:Ren) (Z:List Nat):List SC→List SC→Bool
 |[],[]=>true
 |c::cs,c'::cs'=>DB D S aK as ι Z c c'&&BC D S aK as ι Z cs cs'
 |_,_=>false
def GP (D:iW) (S:af) (aK:Nat) (as:List At) (ι:Ren) (Z:List Nat):aF→aF→Bool
 |_,.c .dead=>true
 | .c c,.c c'=>DB D S aK as ι Z c c'
 | .agg cs,.agg cs'=>BC D S aK as ι Z cs cs'
 |_,_=>false
def GJ (D:iW) (S:af) (aK:Nat) (as:List At) (ι:Ren) (Z:List Nat):List aF→List aF→Bool
 |[],[]=>true
 |c::cs,c'::cs'=>GP D S aK as ι Z c c'&&GJ D S aK as ι Z cs cs'
 |_,_=>false
def Kv (D:iW) (S:af) (aK:Nat) (as:List At) (ι:Ren) (Z:List Nat):SV→SV→Bool
 |_,.v (.c .dead)=>true
 | .v x,.v x'=>GP D S aK as ι Z x x'
 | .aj xs,.aj xs'=>GJ D S aK as ι Z xs xs'
 |_,_=>false
def Ff (D:iW) (S:af) (aK:Nat) (as:List At) (ι:Ren) (Z:List Nat):List SV→List SV→Bool
 |[],[]=>true
 |c::cs,c'::cs'=>Kv D S aK as ι Z c c'&&Ff D S aK as ι Z cs cs'
 |_,_=>false
def Et (D:iW) (S:af) (aK:Nat) (as:List At) (ι:Ren) (Z:List Nat):SB→SB→Bool
 | .box cs,.box cs'=>BC D S aK as ι Z cs cs'
 | .row e x,.row e' x'=>e==e'&& (x'.par aK as).same x
 | .map x,.map x'=> (x'.par aK as).same x
 |_,_=>false
theorem K4 (hl:ρ.length=aK) (hD:D.ok S (ρ++ys)):∀{cs cs':List SC},BC D S aK as ι Z cs cs'=true→BQ (S.aa (ρ++ys)) ι Z (cs.map (SC.aa (ρ++ys))) (cs'.map (SC.aa (ρ++as.map (At.ev (ρ++ys)))))
 |[],[],_=>trivial
 |c::cs,c'::cs',h=>by
  simp only[BC,bt]at h;exact⟨Uz hl hD h.1,K4 hl hD h.2⟩
 |[],_::_,h=>by cases h
 |_::_,[],h=>by cases h
theorem QB (hl:ρ.length=aK) (hD:D.ok S (ρ++ys)) {x x'} (h:GP D S aK as ι Z x x'=true):uu (S.aa (ρ++ys)) ι Z (x.aa (ρ++ys)) (x'.aa (ρ++as.map (At.ev (ρ++ys)))):=by
 unfold GP at h;split at h
 · simp_all[aF.aa,SC.aa,uu]
 · rename_i c c' _;have:=Uz (ys:=ys) hl hD h;simp only[aF.aa];revert this;generalize SC.aa (ρ++as.map (At.ev (ρ++ys))) c'=C';intro this;cases C'<;>first|exact this|trivial
 · exact K4 hl hD h
 · cases h
theorem Qz (hl:ρ.length=aK) (hD:D.ok S (ρ++ys)):∀{cs cs':List aF},GJ D S aK as ι Z cs cs'=true→FC (S.aa (ρ++ys)) ι Z (cs.map (aF.aa (ρ++ys))) (cs'.map (aF.aa (ρ++as.map (At.ev (ρ++ys)))))
 |[],[],_=>trivial
 |c::cs,c'::cs',h=>by
  simp only[GJ,bt]at h;exact⟨QB hl hD h.1,Qz hl hD h.2⟩
 |[],_::_,h=>by cases h
 |_::_,[],h=>by cases h
theorem auG (hl:ρ.length=aK) (hD:D.ok S (ρ++ys)) {x x'} (h:Kv D S aK as ι Z x x'=true):wV (S.aa (ρ++ys)) ι Z (x.aa (ρ++ys)) (x'.aa (ρ++as.map (At.ev (ρ++ys)))):=by
 unfold Kv at h;split at h
 · simp_all[SV.aa,aF.aa,SC.aa,wV]
 · rename_i y y' _;have:=QB (ys:=ys) hl hD h;simp only[SV.aa];revert this;generalize aF.aa (ρ++as.map (At.ev (ρ++ys))) y'=C';intro this
   cases C' with
   |c C'=>cases C'<;>first|exact this|trivial
   |agg _=>exact this
 · exact Qz hl hD h
 · cases h
theorem Ve (hl:ρ.length=aK) (hD:D.ok S (ρ++ys)):∀{cs cs':List SV},Ff D S aK as ι Z cs cs'=true→oz (S.aa (ρ++ys)) ι Z (cs.map (SV.aa (ρ++ys))) (cs'.map (SV.aa (ρ++as.map (At.ev (ρ++ys)))))
 |[],[],_=>trivial
 |c::cs,c'::cs',h=>by
  simp only[Ff,bt]at h;exact⟨auG hl hD h.1,Ve hl hD h.2⟩
 |[],_::_,h=>by cases h
 |_::_,[],h=>by cases h
theorem avH (hl:ρ.length=aK) (hD:D.ok S (ρ++ys)) {b b'} (h:Et D S aK as ι Z b b'=true):Z3 (S.aa (ρ++ys)) ι Z (b.aa (ρ++ys)) (b'.aa (ρ++as.map (At.ev (ρ++ys)))):=by
 cases b with
 |box cs=>
  cases b' with
  |box cs'=>exact K4 hl hD h
  |_=>cases h
 | row e x=>
  cases b' with
  |row e' x'=>
   simp only[Et,bt,beq_iff_eq]at h;refine⟨h.1,?_⟩;grind[At.Hc,At.lW]
  |_=>cases h
 | map x=>
  cases b' with
  |map x'=>
   show(x.ev _).az=(x'.ev _).az;grind[At.Hc,At.lW,Et]
  |_=>cases h
end
def uL (D:iW) (T:aU) (k0:Nat) (S S':af) (aK:Nat) (as:List At) (ι:Ren) (Z:List Nat):Bool:=
 S'.ar.isEmpty&&decide ι.old.Nodup&&decide ι.new.Nodup&&decide (k0≤S'.next)&&decide (S'.nv=aK+as.length)&&
 (Z.all fun n=> !ι.new.contains n&&decide (k0≤n)&&decide (n<S'.next)&&match List.lookup n S'.heap with
  |some (.row e x)=> (x.par aK as).same .r0&&match List.lookup e T with
   |some r=>decide (0<r.size)
   |none=>false
  |_=>false)&&
 (ι.all fun x=>decide (x.2<S'.next)&& (decide (k0≤x.2)||x.1==x.2))&&
 Ff D S aK as ι Z S.tmps S'.tmps&&
 S'.heap.all fun x=>Z.contains x.1||ι.any fun y=>y.2==x.1&&match List.lookup y.1 S.heap with
  |some b=>Et D S aK as ι Z b x.2
  |none=>false
theorem AL {D} {P} {T} {k0} (hT:aU.ok P T) {S S'} {aK} {as} {ι} {Z} {ρ ys} (hl:ρ.length=aK) (hD:D.ok S (ρ++ys)) (h:uL D T k0 S S' aK as ι Z=true) (hg:S.ar=[]):
  S'.ar=[]∧S'.nv=(ρ++as.map (At.ev (ρ++ys))).length∧∀X:Fx,X.P=P→X.k0=k0→Le X (S.aa (ρ++ys)) (S'.aa (ρ++as.map (At.ev (ρ++ys)))):=by
 unfold uL at h;simp only[bt,dj,abP]at h;obtain⟨⟨⟨⟨⟨⟨⟨⟨h1,h2⟩,h3⟩,h4⟩,h5⟩,h6⟩,h7⟩,h8⟩,h9⟩:=h;refine⟨h1,by simp[h5,hl],fun X vX CB=> ?_⟩;subst vX CB;refine nJ.le (ι:=ι) (Z:=Z) hg ?_;exact {
  ar:=h1
  old:=h2
  new:=h3
  k0:=h4
  zs :=fun n hn=>by
   simp only[bC,bt,pN,CV,zg,dj]at h6;obtain⟨⟨⟨a1,a2⟩,a3⟩,a4⟩:=h6 n hn;refine⟨a1,a2,a3,?_⟩;split at a4
   · rename_i e x hx;simp only[bt]at a4;obtain⟨b1,b2⟩:=a4;split at b2
     · rename_i r hr;have:=hT _ _ hr;subst this;have b3:0< (eK X.P e).size:=by simpa using b2
       refine⟨e,?_,b3⟩;rw[dE,hx];simp only[aV,SB.aa];rw[←At.Hc (ys:=ys) hl,At.lW b1];rfl
     · cases b2
   · cases a4
  lt:=fun x hx=>by
   simp only[bC,bt,tm,dj,beq_iff_eq]at h7;obtain⟨a1,a2⟩:=h7 x hx;exact⟨a1,fun hlt=>a2.resolve_left om⟩
  tmps:=Ve hl hD h8
  heap :=fun n' b' hb=>by
   rw[dE]at hb;simp only[aT]at hb;obtain⟨b0,hb0,rfl⟩:=hb;simp only[bC,tm,CV,dj,Pv,bt,beq_iff_eq]at h9;rcases h9 _ (BS hb0)with a1| ⟨y,a1,a2,a3⟩
   · exact .inl a1
   · right;split at a3
     · rename_i b hb;obtain⟨n,m⟩:=y;subst a2;exact⟨n,b.aa (ρ++ys),a1,by rw[dE,hb];rfl,avH hl hD a3⟩
     · cases a3}
end
section
open Go.RowKit
def PS:bD→Nat
 | .tmp t=>1<<<t
 |_=>0
def aiK (n:Nat) (o:Oper):Nat:=
 let n:=match o.dst,o.guard with
  |some t,none=>n^^^ (n&&& (1<<<t))
  |_,_=>n
 o.op.operands.toList.foldl (fun n x=>n|||PS x) n
def lv:Code→Nat→List (Nat×Nat)→Nat→Nat
 | .skip,n,_,_=>n
 | .region _ ops _,n,_,_=>ops.toList.reverse.foldl aiK n
 | .seq a b,n,ex,r=>lv a (lv b n ex r) ex r
 | .cond c a b,n,ex,r=>PS c|||lv a n ex r|||lv b n ex r
 | .block id c,n,ex,r=>lv c n ((id,n)::ex) r
 | .loop c,_,ex,r=>lv c 0 ex r
 | .exit id,_,ex,_=> (List.lookup id ex).getD 0
 | .ret,_,_,r=>r
 | .scope c,n,ex,r=>lv c n ex r
 | .label _,n,_,_=>n
 |_,_,_,_=>0
structure MG where
 np:Nat
 ps:List (List At×Nat)
 ns:List (List (Option Nat)×Nat)
 next:Nat
def RF:List At→List At→Bool
 |[],[]=>true
 |x::xs,y::ys=>x.same y&&RF xs ys
 |_,_=>false
def BF (aK:Nat) (xs:List At) (g:MG):At×MG:=match xs with
 | x::r=>if x.in aK&&r.all (x.same ·)then(x,g)
  else match g.ps.find? (fun p=>RF p.1 xs)with
   |some p=> (.v (aK+p.2),g)
   |none=> (.v (aK+g.np),{g with np:=g.np+1,ps:=(xs,g.np)::g.ps})
 |[]=> (.b false,g)
def Mh (k0:Nat) (xs:List (Option Nat)) (g:MG):Option (Nat×MG):=
 match g.ns.find? (fun p=>p.1==xs)with
 |some p=>some (p.2,g)
 | none=>
  if g.ns.any fun p=> (p.1.zip xs).any fun ab=>ab.1.isSome&&ab.1==ab.2 then none
  else match xs with
   |some m::r=>if decide (m<k0)&&r.all (· ==some m)then some (m,{g with ns:=(xs,m)::g.ns})else some (g.next,{g with ns:=(xs,g.next)::g.ns,next:=g.next+1})
   |_=>some (g.next,{g with ns:=(xs,g.next)::g.ns,next:=g.next+1})
def VD (k0:Nat):List (List (Option Nat))→MG→Option (List Nat×MG)
 |[],g=>some ([],g)
 | xs::r,g=>match Mh k0 xs g with
  |some (n,g)=>match VD k0 r g with
   |some (ns,g)=>some (n::ns,g)
   |none=>none
  |none=>none
def RD:List SC→Option Kd
 |[]=>none
 | .p k _::_=>some k
 |_::r=>RD r
def IT:SC→Bool
 | .nil=>true
 | .sub _ (.i 0) (.i 0)=>true
 |_=>false
def QK (_k0:Nat) (cs:List SC):Bool:=cs.all (fun c=>match c with| .nil=>true| .own _=>true| .sub _ (.i 0) _=>true|_=>false)&&cs.any (fun c=>match c with| .sub _ _ _=>true|_=>false)&&cs.any (fun c=>match c with| .sub _ _ _=>false|_=>true)
def ail (k0:Nat) (cs:List SC):Option Kd:=if cs.all IT||QK k0 cs then none else match RD cs with
 |some k=>some k
 |none=>if cs.any (fun c=>match c with| .sub _ _ _=>true|_=>false)&&cs.any (fun c=>match c with| .sub _ _ _=>false|_=>true)then some .sl else none
def column:Nat→List (List Nat)→List (List (Option Nat))
 |0,_=> []
 |n+1,xs=>xs.map List.head?::column n (xs.map List.tail)
def mC (k0 aK:Nat) (hs:List bY) (cs:List SC) (g:MG):SC×MG:=
 match ail k0 cs with
 | some k=>match(cs.zip hs).mapM (fun (x:SC×bY)=>match x.1 with
   | .p k' x=>if k=k' then some x else none
   | .own n=>if k= .sl then match List.lookup n x.2 with
     |some (.row _ y)=>some y
     |_=>none
    else none
   | .nil=>if k= .sl then some .r0 else none
   | .sub n _ _=>if k= .sl then some (.v (aK+1000000+1000*g.np+n))else none
   |_=>none)with
  |some xs=>let(x,g):=BF aK xs g; (.p k x,g)
  |none=> (.dead,g)
 | none=>
  let named (f:SC→Option (Option Nat)) (k:Nat→MG→SC×MG):SC×MG:=match cs.mapM f with
   |some ns=>match Mh k0 ns g with
    |some (n,g)=>k n g
    |none=> (.dead,g)
   |none=> (.dead,g)
  let ats (f:SC→At) (g:MG):At×MG:=BF aK (cs.map f) g
  if cs.all (fun c=>match c with| .nil=>true|_=>false)then(.nil,g)
  else if QK k0 cs&& !cs.all IT then
   named (fun c=>match c with| .own n=>some (some n)| .sub n _ _=>some (some n)| .nil=>some none|_=>none) fun n g=> (.own n,g)
  else if cs.any (fun c=>match c with| .own _=>true|_=>false)then
   named (fun c=>match c with| .own n=>some (some n)| .nil=>some none|_=>none) fun n g=> (.own n,g)
  else if cs.all IT then named (fun c=>match c with| .sub n _ _=>some (some n)| .nil=>some none|_=>none) fun n g=> (.sub n (.i 0) (.i 0),g)
  else match cs with
   | .sub _ _ _::_=>named (fun c=>match c with| .sub n _ _=>some (some n)|_=>none) fun n g=>
    let(a,g):=ats (fun c=>match c with| .sub _ a _=>a|_=> .b false) g
    let(b,g):=ats (fun c=>match c with| .sub _ _ b=>b|_=> .b false) g
    (.sub n a b,g)
   | .ptr _ o::_=>named (fun c=>match c with| .ptr n o'=>if o=o' then some (some n)else none|_=>none) fun n g=> (.ptr n o,g)
   | .gy _ o ct m _::_=>named (fun c=>match c with| .gy n o' c' m' _=>if o=o'∧ct=c'∧m=m' then some (some n)else none|_=>none) fun n g=>
    let(i,g):=ats (fun c=>match c with| .gy _ _ _ _ i=>i|_=> .b false) g
    (.gy n o ct m i,g)
   | .cE _ _ j::_=>named (fun c=>match c with| .cE n _ j'=>if j=j' then some (some n)else none|_=>none) fun n g=>
    let(i,g):=ats (fun c=>match c with| .cE _ i _=>i|_=> .b false) g
    (.cE n i j,g)
   | .ref _ j::_=>match cs.mapM (fun c=>match c with| .ref x j'=>if j=j' then some x else none|_=>none)with
    |some xs=>let(x,g):=BF aK xs g; (.ref x j,g)
    |none=> (.dead,g)
   | .fn f ns::_=>match cs.mapM (fun c=>match c with| .fn f' eu=>if f==f'&&eu.length==ns.length then some eu else none|_=>none)with
    |some nss=>match VD k0 (column ns.length nss) g with
     |some (ns,g)=> (.fn f ns,g)
     |none=> (.dead,g)
    |none=> (.dead,g)
   | .mp _::_=>named (fun c=>match c with| .mp n=>some (some n)|_=>none) fun n g=> (.mp n,g)
   |_=> (.dead,g)
def NZ (k0 aK:Nat) (hs:List bY):Nat→List (List SC)→MG→List SC×MG
 |0,_,g=> ([],g)
 |n+1,xss,g=>
  let(c,g):=mC k0 aK hs (xss.map fun xs=>xs.headD .dead) g
  let(cs,g):=NZ k0 aK hs n (xss.map List.tail) g
  (c::cs,g)
def XR (k0 aK:Nat) (hs:List bY) (xs:List aF) (g:MG):aF×MG:=
 match xs.mapM (fun x=>match x with| .c c=>some c|_=>none)with
 |some cs=>let(c,g):=mC k0 aK hs cs g; (.c c,g)
 | none=>match xs.mapM (fun x=>match x with| .agg cs=>some cs|_=>none)with
  | some (cs::css)=>if css.all (fun c=>c.length==cs.length)then
    let(cs,g):=NZ k0 aK hs cs.length (cs::css) g; (.agg cs,g)
   else(.c .dead,g)
  |_=> (.c .dead,g)
def Vr (k0 aK:Nat) (hs:List bY):Nat→List (List aF)→MG→List aF×MG
 |0,_,g=> ([],g)
 |n+1,xss,g=>
  let(c,g):=XR k0 aK hs (xss.map fun xs=>xs.headD (.c .dead)) g
  let(cs,g):=Vr k0 aK hs n (xss.map List.tail) g
  (c::cs,g)
def mV (k0 aK:Nat) (hs:List bY) (xs:List SV) (g:MG):SV×MG:=
 match xs.mapM (fun x=>match x with| .v c=>some c|_=>none)with
 |some cs=>let(c,g):=XR k0 aK hs cs g; (.v c,g)
 | none=>match xs.mapM (fun x=>match x with| .aj cs=>some cs|_=>none)with
  | some (cs::css)=>if css.all (fun c=>c.length==cs.length)then
    let(cs,g):=Vr k0 aK hs cs.length (cs::css) g; (.aj cs,g)
   else(.v (.c .dead),g)
  |_=> (.v (.c .dead),g)
def To (k0 aK:Nat) (hs:List bY) (live:Nat):Nat→Nat→List (List SV)→MG→List SV×MG
 |0,_,_,g=> ([],g)
 |n+1,i,xss,g=>
  let(c,g):=if live.testBit i then mV k0 aK hs (xss.map fun xs=>xs.headD (.v (.c .dead))) g else(.v (.c .dead),g)
  let(cs,g):=To k0 aK hs live n (i+1) (xss.map List.tail) g
  (c::cs,g)
def TM:List (Option Nat)→List bY→Option SB
 |some n::_,h::_=>List.lookup n h
 |none::r,_::hs=>TM r hs
 |_,_=>none
def mB (k0 aK:Nat) (hs:List bY) (ns:List (Option Nat)) (g:MG):Option (SB×MG):=
 match TM ns hs with
 | some (.box cs)=>match(ns.zip hs).mapM (fun (x:Option Nat×bY)=>match x.1 with
   |some n=>match List.lookup n x.2 with
    |some (.box cs')=>if cs'.length==cs.length then some cs' else none
    |_=>none
   |none=>none)with
  |some xss=>let(cs,g):=NZ k0 aK hs cs.length xss g;some (.box cs,g)
  |none=>none
 | some (.row e _)=>match(ns.zip hs).mapM (fun (x:Option Nat×bY)=>match x.1 with
   |some n=>match List.lookup n x.2 with
    |some (.row e' y)=>if e==e' then some y else none
    |_=>none
   |none=>some .r0)with
  |some xs=>let(x,g):=BF aK xs g;some (.row e x,g)
  |none=>none
 | some (.map _)=>match(ns.zip hs).mapM (fun (x:Option Nat×bY)=>match x.1 with
   |some n=>match List.lookup n x.2 with
    |some (.map y)=>some y
    |_=>none
   |none=>some .r0)with
  |some xs=>let(x,g):=BF aK xs g;some (.map x,g)
  |none=>none
 |none=>none
def Io (k0 aK:Nat) (hs:List bY):Nat→Nat→MG→bY→bY×MG
 |0,_,g,acc=> (acc,g)
 | fuel+1,i,g,acc=>if i<g.ns.length then
   match g.ns[g.ns.length-1-i]? with
   |some (xs,n)=>match mB k0 aK hs xs g with
    |some (b,g)=>Io k0 aK hs fuel (i+1) g ((n,b)::acc)
    |none=>Io k0 aK hs fuel (i+1) g acc
   |none=> (acc,g)
  else(acc,g)
def merge (live k0 aK:Nat) (Ss:List af):Option af:=match Ss with
 |[]=>none
 | S::_=>
  let hs:=Ss.map af.heap
  let old:=((S.heap.map (·.1)).filter (fun n=>decide (n<k0))).eraseDups
  let(tmps,g):=To k0 aK hs live S.tmps.length 0 (Ss.map af.tmps) ⟨0,[],[],k0⟩
  let g:=old.foldl (fun g m=>match Mh k0 (Ss.map fun _=>some m) g with
   |some (_,g)=>g
   |none=>g) g
  let(heap,g):=Io k0 aK hs 300 0 g []
  some ⟨tmps,heap.reverse,[],g.next,aK+g.np⟩
structure FG where
 as:List (Nat×At)
 ι:Ren
 Z:List Nat
def mT (aK:Nat) (x y:At) (g:FG):FG:=match y with
 | .v j=>if aK≤j then
   (match List.lookup (j-aK) g.as with
   |some _=>g
   |none=> {g with as:=(j-aK,x)::g.as})
  else g
 |_=>g
def fN (n n':Nat) (g:FG):FG:=match List.lookup n g.ι with
 |some _=>g
 |none=> {g with ι:=(n,n')::g.ι}
def fC (D:iW) (aK:Nat) (h:bY) (c c':SC) (g:FG):FG:=match c,c' with
 | .p _ x,.p _ y=>mT aK x y g
 | .own n,.p _ y=>match List.lookup n h with
  |some (.row _ x)=>mT aK x y g
  |_=>g
 | .nil,.p _ y=>mT aK .r0 y g
 | .sub n a b,.p _ y=>match D.find? (fun z=>z.1==n&&z.2.1.same a&&z.2.2.1.same b)with
  |some z=>mT aK z.2.2.2 y g
  |none=>g
 | .nil,.own n'=>if g.Z.contains n' then g else{g with Z:=n'::g.Z}
 | .nil,.sub n' _ _=>if g.Z.contains n' then g else{g with Z:=n'::g.Z}
 | .own n,.own n'=>fN n n' g
 | .sub n a b,.sub n' a' b'=>mT aK b b' (mT aK a a' (fN n n' g))
 | .ptr n _,.ptr n' _=>fN n n' g
 | .gy n _ _ _ i,.gy n' _ _ _ i'=>mT aK i i' (fN n n' g)
 | .cE n i _,.cE n' i' _=>mT aK i i' (fN n n' g)
 | .ref x _,.ref y _=>mT aK x y g
 | .fn _ ns,.fn _ eu=> (ns.zip eu).foldl (fun g x=>fN x.1 x.2 g) g
 | .mp n,.mp n'=>fN n n' g
 |_,_=>g
def Tg (D:iW) (aK:Nat) (h:bY) (xs ys:List SC) (g:FG):FG:=(xs.zip ys).foldl (fun g x=>fC D aK h x.1 x.2 g) g
def Wi (D:iW) (aK:Nat) (h:bY) (x y:aF) (g:FG):FG:=match x,y with
 | .c x,.c y=>fC D aK h x y g
 | .agg x,.agg y=>Tg D aK h x y g
 |_,_=>g
def fV (D:iW) (aK:Nat) (h:bY) (x y:SV) (g:FG):FG:=match x,y with
 | .v x,.v y=>Wi D aK h x y g
 | .aj xs,.aj ys=> (xs.zip ys).foldl (fun g x=>Wi D aK h x.1 x.2 g) g
 |_,_=>g
def fB (D:iW) (aK:Nat) (h:bY) (x y:SB) (g:FG):FG:=match x,y with
 | .box xs,.box ys=>Tg D aK h xs ys g
 | .row _ x,.row _ y=>mT aK x y g
 | .map x,.map y=>mT aK x y g
 |_,_=>g
def Ly (D:iW) (aK:Nat) (h h':bY):Nat→Nat→FG→FG
 |0,_,g=>g
 | fuel+1,i,g=>if i<g.ι.length then
   match g.ι[g.ι.length-1-i]? with
   |some (n,n')=>match List.lookup n h,List.lookup n' h' with
    |some b,some b'=>Ly D aK h h' fuel (i+1) (fB D aK h b b' g)
    |_,_=>Ly D aK h h' fuel (i+1) g
   |none=>g
  else g
def arR (D:iW) (k0 aK:Nat) (S' S:af):List At×Ren×List Nat:=
 let old:=((S'.heap.map (·.1)).filter (fun n=>decide (n<k0))).eraseDups
 let g:FG:=⟨[],old.map fun n=> (n,n),[]⟩
 let g:=(S.tmps.zip S'.tmps).foldl (fun g x=>fV D aK S.heap x.1 x.2 g) g
 let g:=Ly D aK S.heap S'.heap 300 0 g
 let g:=g.Z.foldl (fun g n=>match List.lookup n S'.heap with
  |some (.row _ y)=>mT aK .r0 y g
  |_=>g) g
 ((List.range (S'.nv-aK)).map fun p=> (List.lookup p g.as).getD (.b false),g.ι,g.Z)
end
end
end Go.Proofs.YtndegphojkiblaaGreatDoor
