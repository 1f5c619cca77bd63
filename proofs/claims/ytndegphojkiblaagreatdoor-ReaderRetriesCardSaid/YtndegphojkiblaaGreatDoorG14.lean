/- A part of the proof. -/
import Derived.Test.YtndegphojkiblaaGreatDoorG13
set_option linter.all false
set_option maxHeartbeats 4000000
set_option maxRecDepth 100000
namespace Go.Proofs.YtndegphojkiblaaGreatDoor
noncomputable section
section
open Go.RowKit
open Classical
def ae.qL:ae→List af
 | .ak (.st .normal S)=> [S]
 | .ak _=> []
 | .op _ k=>k.qL
 | .ite _ a b=>a.qL++b.qL
 | .join a b=>a.qL++b.qL
 | .loop _ b=>b.qL
def ae.inLoop:Bool→ae→Bool
 |u,.ak (.st .normal _)=>u
 |_,.ak _=>false
 |u,.op _ k=>k.inLoop u
 |u,.ite _ a b=>a.inLoop u||b.inLoop u
 |u,.join a b=>a.inLoop u||b.inLoop u
 |_,.loop _ b=>b.inLoop true
def tD (S:af):Nat→List (SV×SV)→List Nd×iW
 |_,[]=> ([],[])
 | m,(x,y)::r=>match x,y with
  | .v (.c (.sub n a b)),.v (.c (.p .sl _))=>match S.view m (.sub n a b)with
   |some (nds,z)=>match tD S (m+fM nds) r with
    | (us,D)=> (nds++us,(n,a,b,z)::D)
   |none=>tD S m r
  |_,_=>tD S m r
theorem Dg {S:af} {ρ:List L}:∀{l:List (SV×SV)} {m:Nat},Sat ρ m (tD S m l).1→(tD S m l).2.ok S ρ
 |[],_,_=>fun z hz=>by cases hz
 | (x,y)::r,m,h=>by
  unfold tD at h⊢;split at h
  · split at h
    · rename_i nds z hv;obtain⟨h1,h2⟩:=Sat.app h;intro w hw;rcases dL.1 hw with rfl|hw
      · exact sM hv h1
      · exact Dg h2 w hw
    simp_all[Dg]
  · exact Dg h
def pw (T:aU) (k0 aK:Nat) (S':af) (d:Nat) (e:Ex) (S:af):Option ae:=match e with
 | .normal=>match tD S S.nv (S.tmps.zip S'.tmps)with
  | (nds,D)=>match arR D k0 aK S' S with
   | (as,ι,Z)=>if(uL D T k0 S S' aK as ι Z&&tQ S.nv nds&& (nds.isEmpty||S.in S.nv))=true then some (nds.foldr .op (.ak (.jump d as)))else none
 |e=>some (.ak (.st e S))
def SC.cut (n:Nat) (b:At):SC→SC
 | .sub m (.i 0) b'=>if m=n then(if b'.same b then .own n else .dead)else .sub m (.i 0) b'
 |c=>if c.names.contains n then .dead else c
def SB.cut (n:Nat) (b:At):SB→SB
 | .box cs=> .box (cs.map (SC.cut n b))
 |x=>x
def af.cut (S:af) (n:Nat) (b:At) (e:a6) (v:At):af:={S with
 tmps:=S.tmps.map (SV.ez (SC.cut n b))
 heap:=S.heap.map fun x=> (x.1,if x.1=n then .row e v else x.2.cut n b)}
def cutAt (k0:Nat) (h:bY):Nat→List (SV×SV)→Option (Nat×Nat×At×a6×At)
 |_,[]=>none
 | i,(x,y)::r=>match x,y with
  | .v (.c (.sub n (.i 0) b)),.v (.c (.own _))=>if k0≤n then match List.lookup n h with
    |some (.row e x)=>some (i,n,b,e,x)
    |_=>cutAt k0 h (i+1) r
   else cutAt k0 h (i+1) r
  |_,_=>cutAt k0 h (i+1) r
def Wj (k0:Nat) (S:af) (i n:Nat) (b:At) (ty:a6) (x:At):Bool:=S.in S.nv&&tQ S.nv [.tk x b]&& (match S.tmps[i]? with
 |some (.v (.c (.sub n' (.i 0) b')))=>n'==n&&b'.same b
 |_=>false)&&decide (k0≤n)&& (match List.lookup n S.heap with
 |some (.row e' x')=>e'==ty&&x'.same x
 |_=>false)
def p_ (T:aU) (k0 aK:Nat) (S':af) (d:Nat) (e:Ex) (S:af):Option ae:=match e with
 | .normal=>match cutAt k0 S.heap 0 (S.tmps.zip S'.tmps)with
  |some (i,n,b,ty,x)=>if Wj k0 S i n b ty x=true then(pw T k0 aK S' d .normal ((S.cut n b ty (.v S.nv)).more 1)).map (.op (.tk x b))else none
  |none=>pw T k0 aK S' d .normal S
 |e=>pw T k0 aK S' d e S
def SC.sw (n m:Nat):SC→SC
 | .own k=> .own (if k=n then m else k)
 | .sub k a b=> .sub (if k=n then m else k) a b
 | .ptr k o=> .ptr (if k=n then m else k) o
 | .gy k o c l i=> .gy (if k=n then m else k) o c l i
 | .cE k i j=> .cE (if k=n then m else k) i j
 | .fn f ns=> .fn f (ns.map fun k=>if k=n then m else k)
 | .mp k=> .mp (if k=n then m else k)
 |c=>c
def SB.sw (n m:Nat):SB→SB
 | .box cs=> .box (cs.map (SC.sw n m))
 |x=>x
def amv (k0:Nat) (S S':af):Option (af×Ren):=match(S.tmps.zip S'.tmps).findSome? (fun x=>match x with
  | (.v (.c (.sub n (.i 0) _)),.v (.c (.own _)))=>if n<k0 then some n else none
  |_=>none)with
 | some n=>some ({S with tmps:=S.tmps.map (SV.ez (SC.sw n S.next)),heap:=S.heap.map (fun x=> (if x.1=n then S.next else x.1,x.2.sw n S.next)),next:=S.next+1},
   ((S.heap.map (·.1)).eraseDups).map fun k=> (k,if k=n then S.next else k))
 |none=>none
def jmp (T:aU) (k0 aK:Nat) (S':af) (d:Nat) (e:Ex) (S:af):Option ae:=match e with
 | .normal=>match amv k0 S S' with
  |some (S1,ι)=>if uL [] T k0 S S1 S.nv [] ι []=true then p_ T k0 aK S' d .normal S1 else none
  |none=>p_ T k0 aK S' d .normal S
 |e=>p_ T k0 aK S' d e S
def inl (k:af→Option ae) (_:Nat) (e:Ex) (S:af):Option ae:=match e with
 | .normal=>k S
 |e=>some (.ak (.st e S))
def cont (T:aU) (k0 live aK:Nat) (k:af→Option ae) (t:ae):Option ae:=
 if decide (t.qL.length≤1)&& !t.inLoop false then t.bind (inl k) 0
 else match merge live k0 aK t.qL with
  |some S'=>match t.bind (jmp T k0 aK S') 0,k S' with
   |some u,some rest=>some (.join u rest)
   |_,_=>none
  |none=>none
def ae.YL:ae→Bool
 | .ak _=>true
 | .op _ k=>YL k
 |_=>false
def DJ (T:aU) (k0 live:Nat) (body:af→Option ae):Nat→af→Option ae
 |0,_=>none
 |n+1,S=>match body S with
  |some t=>if t.YL then cont T k0 live S.nv (DJ T k0 live body n) t else none
  |none=>none
def D9 (T:aU) (k0 live:Nat) (body:af→Option ae) (S:af):Nat→List af→Option ae
 |0,_=>none
 | fuel+1,Ss=>match merge live k0 S.nv Ss with
  | some S'=>match body S' with
   |some t=>match jmp T k0 S.nv S' 0 .normal S,t.bind (jmp T k0 S.nv S') 0 with
    |some (.ak (.jump _ as)),some u=>if S'.ar.isEmpty then some (.loop as u)else none
    |_,_=>D9 T k0 live body S fuel (S::t.qL)
   |none=>none
  |none=>none
def sG:Code→Nat
 | .region _ ops _=>ops.toList.foldl (fun n o=>match o.dst with
  |some t=>n||| (1<<<t)
  |none=>n) 0
 | .seq a b=>sG a|||sG b
 | .cond _ a b=>sG a|||sG b
 | .block _ c=>sG c
 | .loop c=>sG c
 | .scope c=>sG c
 |_=>0
def SC.any (k:Nat):SC→SC
 | .p kd _=> .p kd (.v k)
 |c=>c
def SV.any (k:Nat):SV→SV
 | .v (.c c)=> .v (.c (c.any k))
 | .v (.agg cs)=> .v (.agg (cs.zipIdx.map fun x=>x.1.any (k+x.2)))
 |x=>x
def pk (T:aU) (c:Code) (S:af):List af:=match List.lookup 999997 T with
 |some _=> [S,{S with tmps:=S.tmps.zipIdx.map fun x=>if(sG c).testBit x.2 then x.1.any (2000000+S.nv+1000*x.2)else x.1}]
 |none=> [S]
def exec (T:aU) (C:cK) (k0:Nat):Code→Nat→List (Nat×Nat)→Nat→af→Option ae
 | .skip,_,_,_,S=>some (.ak (.st .normal S))
 | .region _ ops draw,_,_,_,S=>dH T C ops draw S
 | .seq a b,n,ex,r,S=>match exec T C k0 a (lv b n ex r) ex r S with
  |some t=>cont T k0 (lv b n ex r) S.nv (exec T C k0 b n ex r) t
  |none=>none
 | .cond c a b,n,ex,r,S=>match S.arg c with
  |some (.v (.c (.p .bool (.b true))))=>exec T C k0 a n ex r S
  |some (.v (.c (.p .bool (.b false))))=>exec T C k0 b n ex r S
  |some (.v (.c (.p .bool x)))=>match exec T C k0 a n ex r S,exec T C k0 b n ex r S with
   |some u,some v=>some (.ite x u v)
   |_,_=>none
  |_=>none
 | .block id c,n,ex,r,S=>match exec T C k0 c n ((id,n)::ex) r S with
  |some t=>t.bind (fun _ e S=>some (.ak (.st (if e= .exit id then .normal else e) S))) 0
  |none=>none
 | .loop c,_,ex,r,S=>match D9 T k0 (lv c 0 ex r) (exec T C k0 c (lv c 0 ex r) ex r) S 5 (pk T c S)with
  |some u=>some u
  |none=>DJ T k0 (lv c 0 ex r) (exec T C k0 c (lv c 0 ex r) ex r) 600 S
 | .exit id,_,_,_,S=>some (.ak (.st (.exit id) S))
 | .ret,_,_,_,S=>some (.ak (.st .ret S))
 | .scope c,n,ex,r,S=>exec T C k0 c n ex r S
 | .label _,_,_,_,S=>some (.ak (.st .normal S))
 |_,_,_,_,_=>none
def oV (P:bB) (k0:Nat) (c:Code) (S:af) (t:ae):Prop:=∀ρ x ρ',ρ.length=S.nv→t.aa ρ=some (x,ρ')→Good P k0 c S ρ x ρ'
theorem rN {f} {t u:ae} {ρ} {o}
  (hb:∀x br,t.aa ρ=some (x,br)→∃e S,x= .st e S)
  (H:∀e S br,t.aa ρ=some (.st e S,br)→∀d u1,f d e S=some u1→u1.aa br=((f 0 e S).bind (·.aa br)).map (lift d))
  (h:t.bind f 0=some u) (hd:u.aa ρ=some o):∃e S br v,t.aa ρ=some (.st e S,br)∧f 0 e S=some v∧v.aa br=some o:=by
 have h1:=qz (f:=f) (R:=fun e S br=> (f 0 e S).bind (·.aa br)) (t:=t) (u:=u) (d:=0) (ρ:=ρ) H h;rw[hd]at h1
 cases ht:t.aa ρ with
 |none=>rw[ht]at h1;cases h1
 | some y=>
  obtain⟨x,br⟩:=y;obtain⟨e,S,rfl⟩:=hb x br ht;rw[ht]at h1;simp only[after]at h1
  cases hf:f 0 e S with
  |none=>simp_all
  |some v=>
   grind
theorem Good.bare {P} {k0} {c} {S} {ρ ρ'} {x} (h:Good P k0 c S ρ x ρ'):∃e S',x= .st e S':=by
 obtain⟨e,S',h1,_⟩:=h;simp_all
theorem YV {d} {o} (h:∀x ρ,o=some (x,ρ)→∃e S,x= .st e S):o=o.map (lift d):=by
 cases o with
 |none=>rfl
 |some y=>
  obtain⟨x,ρ⟩:=y;obtain⟨e,S,rfl⟩:=h x ρ rfl;rfl
theorem KV {T} {k0 aK} {S'} {d} {e} {S} {u1} {br} (h:pw T k0 aK S' d e S=some u1):u1.aa br=((pw T k0 aK S' 0 e S).bind (·.aa br)).map (lift d):=by
 cases e with
 |normal=>
  simp only[pw]at h⊢;split at h
  · rename_i hc;cases h;rw[ay hc];simp only[rD,Dx];split
    · simp_all[ae.aa,aV,lift]
    · rfl
  · cases h
 |_=>cases h;rfl
theorem If {T} {k0 aK} {S'} {d} {e} {S} {u1} {br} (h:p_ T k0 aK S' d e S=some u1):u1.aa br=((p_ T k0 aK S' 0 e S).bind (·.aa br)).map (lift d):=by
 cases e with
 |normal=>
  simp only[p_]at h⊢;split at h
  · rename_i i n b ty x hcut;split at h
    · rename_i hc;rw[ay hc];simp only[aT]at h;obtain⟨u,hu,rfl⟩:=h;have key:∀rf,u.aa rf=((pw T k0 aK S' 0 .normal ((S.cut n b ty (.v S.nv)).more 1)).bind (·.aa rf)).map (lift d):=fun rf=>KV hu
      cases h0:pw T k0 aK S' 0 .normal ((S.cut n b ty (.v S.nv)).more 1)with
      |none=>
       simp only[h0,Option.bind_none,Py]at key;simp only[ae.aa,key,Py,Option.bind_none];split<;>rfl
      |some u0=>
       simp only[h0,rD]at key;simp only[aV,rD,ae.aa,key];split<;>rfl
    · cases h
  · exact KV h
 |_=>simp only[p_]at h⊢;exact KV h
theorem Df {T} {k0 aK} {S'} {d} {e} {S} {u1} {br} (h:jmp T k0 aK S' d e S=some u1):u1.aa br=((jmp T k0 aK S' 0 e S).bind (·.aa br)).map (lift d):=by
 cases e with
 |normal=>
  simp only[jmp]at h⊢;split at h
  · split at h
    · rename_i hc;rw[ay hc];exact If h
    · cases h
  · exact If h
 |_=>simp only[jmp]at h⊢;exact If h
theorem WK {P} {T} (hT:aU.ok P T) {k0} {S S'} {ρ ys} {aK} (hl:ρ.length=aK) (hl2:S.nv=(ρ++ys).length) {v} {o} (hg:S.ar=[]) (h:pw T k0 aK S' 0 .normal S=some v) (hd:v.aa (ρ++ys)=some o):
   ∃as zs,o=(.jump 0 as,ρ++ys++zs)∧S'.ar=[]∧S'.nv=(ρ++as.map (At.ev (ρ++ys++zs))).length∧∀X:Fx,X.P=P→X.k0=k0→Le X (S.aa (ρ++ys)) (S'.aa (ρ++as.map (At.ev (ρ++ys++zs)))):=by
 simp only[pw]at h;split at h
 · rename_i hc;cases h;simp only[bt,tm]at hc;obtain⟨⟨h1,h2⟩,h3⟩:=hc;rw[Dx]at hd;split at hd
   · rename_i ρ' he;cases hd;obtain⟨zs,e1,e2⟩:=Fw he;subst e1;have y_:=Ja (ys:=[]) (by simp_all) he;rw[eW,←hl2]at y_;have c_:S.aa (ρ++ys++zs)=S.aa (ρ++ys):=by
      grind[fM,af.kA]
     have hD:=Dg (S:=S) y_;rw[cd]at hD;have:=AL hT hl hD h1 hg;grind
   · cases hd
 · cases h
theorem SC.oW {ρ} {n} {b} (c:SC):ub n (b.ev ρ).ah.toNat (c.aa ρ) ((c.cut n b).aa ρ):=by
 have gen:∀c:SC,ub n (b.ev ρ).ah.toNat (c.aa ρ) ((if c.names.contains n then SC.dead else c).aa ρ):=by
   intro c;split
   · exact .inl rfl
   · rename_i hn;exact .inr (.inl ⟨rfl,by rw[SC.ng];simpa using hn⟩)
 unfold SC.cut;split
 · split
   · rename_i hm;subst hm;split
     · rename_i hs;rw[At.lW hs];exact .inr (.inr ⟨rfl,rfl⟩)
     · exact .inl rfl
   · exact .inr (.inl ⟨rfl,by simp only[SC.aa,C.names,tn];omega⟩)
 · exact gen _
theorem aF.oW {ρ} {n} {b} (x:aF):zW n (b.ev ρ).ah.toNat (x.aa ρ) ((x.ez (SC.cut n b)).aa ρ):=by
 cases x with
 |c c=>
  have:=SC.oW (ρ:=ρ) (n:=n) (b:=b) c;simp only[aF.ez,aF.aa];revert this;generalize SC.aa ρ (SC.cut n b c)=c';intro h;cases c'<;>first|trivial|exact h
 |agg cs=>
  refine⟨by simp,fun i c' hi=> ?_⟩;simp only[bV,HY,aT,Function.comp]at hi;obtain⟨c,hc,rfl⟩:=hi;exact⟨c.aa ρ,by simp[hc],SC.oW c⟩
theorem SV.oW {ρ} {n} {b} (x:SV):Yi n (b.ev ρ).ah.toNat (x.aa ρ) ((x.ez (SC.cut n b)).aa ρ):=by
 cases x with
 |v x=>
  have:=aF.oW (ρ:=ρ) (n:=n) (b:=b) x;simp only[SV.ez,SV.aa];revert this;generalize aF.aa ρ (aF.ez (SC.cut n b) x)=y;intro h
  cases y with
  |c c=>cases c<;>first|trivial|exact h
  |agg=>exact h
 |aj xs=>
  refine⟨by simp,fun i c' hi=> ?_⟩;simp only[bV,HY,aT,Function.comp]at hi;obtain⟨c,hc,rfl⟩:=hi;exact⟨c.aa ρ,by simp[hc],aF.oW c⟩
theorem SB.oW {ρ} {n} {b} (x:SB):Q_ n (b.ev ρ).ah.toNat (x.aa ρ) ((x.cut n b).aa ρ):=by
 cases x with
 |box cs=>
  refine⟨by simp,fun i c' hi=> ?_⟩;simp only[bV,HY,aT,Function.comp]at hi;obtain⟨c,hc,rfl⟩:=hi;exact⟨c.aa ρ,by simp[hc],SC.oW c⟩
 |row e x=>exact⟨rfl,rfl⟩
 |map=>rfl
theorem TP {f:Nat→SB→SB} {m}:∀{h:bY},List.lookup m (h.map fun x=> (x.1,f x.1 x.2))=(List.lookup m h).map (f m)
 |[]=>rfl
 | (k,b)::h=>by
  simp only[cu,gW];split
  · simp_all
  · exact TP
theorem agU {ρ} {S:af} {k0 n i:Nat} {b v x} {e} (hg:S.ar=[]) (hk:k0≤n) (hi:S.tmps[i]? =some (.v (.c (.sub n (.i 0) b)))) (hl:List.lookup n S.heap=some (.row e x)) (hv:(v.ev ρ).az=(x.ev ρ).az.take (b.ev ρ).ah.toNat):
  KK k0 (S.aa ρ) ((S.cut n b e v).aa ρ) n (b.ev ρ).ah.toNat e (x.ev ρ).az where
 k0:=hk
 ar:=hg
 next:=rfl
 row:=by rw[dE,hl];rfl
 told:=⟨i,by simp only[af.aa,bV,hi];rfl⟩
 len:=by simp[af.aa,af.cut]
 tmps:=fun j v' hj=>by
  simp only[af.aa,af.cut,bV,HY,aT,Function.comp]at hj;obtain⟨y,hy,rfl⟩:=hj;simp_all[af.aa,SV.oW]
 heap:=fun m b' hb=>by
  rw[dE]at hb;simp only[aT]at hb;obtain⟨b0,hb0,rfl⟩:=hb;have hb0:List.lookup m (S.heap.map fun x=> (x.1,(fun m b1=>if m=n then SB.row e v else b1.cut n b) x.1 x.2))=some b0:=hb0;rw[TP (f:=fun m b1=>if m=n then SB.row e v else b1.cut n b)]at hb0;simp only[aT]at hb0;obtain⟨b1,hb1,rfl⟩:=hb0;by_cases hm:m=n
  · left;subst hm;exact⟨rfl,by simp only[if_true,SB.aa,hv]⟩
  · right;refine⟨hm,b1.aa ρ,by rw[dE,hb1];rfl,?_⟩;simp_all[SB.oW]
theorem QF {P} {T} (hT:aU.ok P T) {k0} {S S'} {ρ ys} {aK} (hl:ρ.length=aK) (hl2:S.nv=(ρ++ys).length) {v} {o} (hg:S.ar=[]) (h:p_ T k0 aK S' 0 .normal S=some v) (hd:v.aa (ρ++ys)=some o):
   ∃as zs,o=(.jump 0 as,ρ++ys++zs)∧S'.ar=[]∧S'.nv=(ρ++as.map (At.ev (ρ++ys++zs))).length∧∀X:Fx,X.P=P→X.k0=k0→Le X (S.aa (ρ++ys)) (S'.aa (ρ++as.map (At.ev (ρ++ys++zs)))):=by
 simp only[p_]at h;split at h
 · rename_i i n b ty x hcut;split at h
   · rename_i hc;simp only[Wj,bt,dj]at hc;obtain⟨⟨⟨⟨c1,c2⟩,c3⟩,c4⟩,c5⟩:=hc;simp only[aT]at h;obtain⟨u,hu,rfl⟩:=h;have hi:S.tmps[i]? =some (.v (.c (.sub n (.i 0) b))):=by
       split at c3
       · rename_i n' b' hx;simp only[bt,beq_iff_eq]at c3;obtain⟨rfl,hs⟩:=c3;rw[hx,At.lW hs]
       · cases c3
     have hlk:List.lookup n S.heap=some (.row ty x):=by
       split at c5
       · rename_i e' x' hx;simp only[bt,beq_iff_eq]at c5;obtain⟨rfl,hs⟩:=c5;rw[hx,At.lW hs]
       · cases c5
     let r:L:= .r (((x.ev (ρ++ys)).az).take (b.ev (ρ++ys)).ah.toNat)
     have hd':u.aa (ρ++(ys++ [r]))=some o:=by rw[←cd];exact hd
     obtain⟨as,zs,j1,j2,j3,j4⟩:=WK (S:=(S.cut n b ty (.v S.nv)).more 1) hT hl (by grind[af.more,af.cut]) hg hu hd';simp only[tQ,Nd.in,bt,Bool.and_true]at c2;have e1:∀y:At,y.in S.nv=true→y.ev (ρ++(ys++ [r]))=y.ev (ρ++ys):=fun y hy=>by
       grind[At.ep]
     have hv:((At.v S.nv).ev (ρ++(ys++ [r]))).az=((x.ev (ρ++(ys++ [r]))).az).take (b.ev (ρ++(ys++ [r]))).ah.toNat:=by
       rw[e1 x c2.1,e1 b c2.2];have:(ρ++(ys++ [r]))[S.nv]? =some r:=by
         simp_all
       show(((ρ++(ys++ [r]))[S.nv]?).getD (.b false)).az=_;rw[this];rfl
     have hcs:=agU (ρ:=ρ++(ys++ [r])) (k0:=k0) (v:= .v S.nv) hg c4 hi hlk hv;have aCz:S.aa (ρ++(ys++ [r]))=S.aa (ρ++ys):=by grind[af.kA]
     rw[aCz]at hcs;refine⟨as,r::zs,?_,j2,?_,fun X vX CB=> ?_⟩
     · rw[j1];simp
     · simpa using j3
     · have:=j4 X vX CB;subst CB;have h2:ρ++ys++r::zs=ρ++(ys++ [r])++zs:=by simp
       rw[h2];exact fun a w ht=>this a w (hcs.le hg a w ht)
   · cases h
 grind[WK]
theorem km {P} {T} (hT:aU.ok P T) {k0} {S S'} {ρ ys} {aK} (hl:ρ.length=aK) (hl2:S.nv=(ρ++ys).length) {v} {o} (hg:S.ar=[]) (h:jmp T k0 aK S' 0 .normal S=some v) (hd:v.aa (ρ++ys)=some o):
   ∃as zs,o=(.jump 0 as,ρ++ys++zs)∧S'.ar=[]∧S'.nv=(ρ++as.map (At.ev (ρ++ys++zs))).length∧∀X:Fx,X.P=P→X.k0=k0→Le X (S.aa (ρ++ys)) (S'.aa (ρ++as.map (At.ev (ρ++ys++zs)))):=by
 simp only[jmp]at h;split at h
 · split at h
   · rename_i hc;obtain⟨g1,g2,g3⟩:=AL (D:=[]) (ρ:=ρ++ys) (ys:=[]) hT hl2.symm (fun z hz=>by cases hz) hc hg;simp only[iv,eW]at g2 g3;obtain⟨as,zs,j1,j2,j3,j4⟩:=QF hT hl g2 g1 h hd;exact⟨as,zs,j1,j2,j3,fun X hP hk a w ht=>j4 X hP hk a w (g3 X hP hk a w ht)⟩
   · cases h
 grind[QF]
theorem ajj {P} {T} (hT:aU.ok P T) {k0 live} {a b} {k} {S} {t u} (ha:oV P k0 a S t)
   (hk:∀S2 u,S2.ar=[]→k S2=some u→oV P k0 b S2 u) (h:cont T k0 live S.nv k t=some u):oV P k0 (.seq a b) S u:=by
 intro ρ x ρ' hl hd;unfold cont at h;split at h
 · obtain⟨e,S1,br,v,h1,h2,h3⟩:=rN (fun x br hx=> (ha ρ x br hl hx).bare) (fun e S1 br ht d u1 hf=>by
     cases e with
     | normal=>
       simp only[inl]at hf⊢;rw[hf];obtain⟨e',rh,g1,g2,g3,g4,g5⟩:=ha ρ _ _ hl ht;cases g1;exact YV fun x rf hx=> (hk S1 u1 g4 hf br x rf g2.symm hx).bare
     |_=>cases hf;rfl) h hd
   obtain⟨e',rh,g1,g2,⟨ys,g3⟩,g4,g5⟩:=ha ρ _ _ hl h1;cases g1
   cases e with
   | normal=>
     obtain⟨e2,S2,k1,k2,⟨zs,k3⟩,k4,k5⟩:=hk S1 v g4 h2 br x ρ' g2.symm h3;exact⟨e2,S2,k1,k2,⟨ys++zs,by simp_all⟩,k4,fun X hP bK Q hQ=>fJ (g5 X hP bK _ (k5 X hP bK Q hQ))⟩
   |exit id=>cases h2;cases h3;exact⟨.exit id,S1,rfl,g2,⟨ys,g3⟩,g4,fun X hP bK Q hQ=>fJ (g5 X hP bK _ hQ)⟩
   |ret=>cases h2;cases h3;exact⟨.ret,S1,rfl,g2,⟨ys,g3⟩,g4,fun X hP bK Q hQ=>fJ (g5 X hP bK _ hQ)⟩
 · split at h
   · rename_i S' HA;split at h
     · rename_i w rest hw OE;cases h;simp only[ae.aa]at hd
       cases hwd:w.aa ρ with
       |none=>simp_all
       | some o=>
        obtain⟨e,S1,br,v,h1,h2,h3⟩:=rN (fun x br hx=> (ha ρ x br hl hx).bare) (fun e S1 br ht d u1 hf=>Df hf) hw hwd;obtain⟨e',rh,g1,g2,⟨ys,g3⟩,g4,g5⟩:=ha ρ _ _ hl h1;cases g1
        cases e with
        |normal=>
         subst g3;obtain⟨as,zs',j1,j2,j3,j4⟩:=km hT hl g2 g4 h2 h3;subst j1;rw[hwd]at hd;obtain⟨e2,S2,k1,k2,⟨zs,k3⟩,k4,k5⟩:=hk S' rest j2 OE _ x ρ' j3.symm hd;exact⟨e2,S2,k1,k2,⟨_,by rw[k3,cd]⟩,k4,fun X hP bK Q hQ=>fJ (g5 X hP bK _ (VG (j4 X hP bK) (k5 X hP bK Q hQ)))⟩
        |exit id=>
         cases h2;cases h3;rw[hwd]at hd;cases hd;exact⟨.exit id,S1,rfl,g2,⟨ys,g3⟩,g4,fun X hP bK Q hQ=>fJ (g5 X hP bK _ hQ)⟩
        |ret=>
         cases h2;cases h3;rw[hwd]at hd;cases hd;exact⟨.ret,S1,rfl,g2,⟨ys,g3⟩,g4,fun X hP bK Q hQ=>fJ (g5 X hP bK _ hQ)⟩
     · cases h
   · cases h
def JA (P:bB) (k0:Nat) (A:Fx→(Exit→av→Prop)→av→Prop) (S:af) (t:ae):Prop:=∀ρ x ρ',ρ.length=S.nv→t.aa ρ=some (x,ρ')→
 ∃e S',x= .st e S'∧S'.nv=ρ'.length∧(∃ys,ρ'=ρ++ys)∧S'.ar=[]∧∀X:Fx,X.P=P→X.k0=k0→∀Q:Exit→av→Prop,Q e.to (S'.aa ρ')→A X Q (S.aa ρ)
theorem ajh {P} {T} (hT:aU.ok P T) {k0 live} {a} {A} (hle:∀X Q st st',Le X st st'→A X Q st'→A X Q st) {k} {S} {t u} (ha:oV P k0 a S t)
   (hk:∀S2 u,S2.ar=[]→k S2=some u→JA P k0 A S2 u) (h:cont T k0 live S.nv k t=some u):JA P k0 (fun X Q=>Aw X a (AD (A X Q) Q)) S u:=by
 intro ρ x ρ' hl hd;unfold cont at h;split at h
 · obtain⟨e,S1,br,v,h1,h2,h3⟩:=rN (fun x br hx=> (ha ρ x br hl hx).bare) (fun e S1 br ht d u1 hf=>by
     cases e with
     | normal=>
       simp only[inl]at hf⊢;rw[hf];obtain⟨e',rh,g1,g2,g3,g4,g5⟩:=ha ρ _ _ hl ht;cases g1;exact YV fun x rf hx=> (by obtain⟨e,S',q,_⟩:=hk S1 u1 g4 hf br x rf g2.symm hx;simp_all)
     |_=>cases hf;rfl) h hd
   obtain⟨e',rh,g1,g2,⟨ys,g3⟩,g4,g5⟩:=ha ρ _ _ hl h1;cases g1
   cases e with
   | normal=>
     obtain⟨e2,S2,k1,k2,⟨zs,k3⟩,k4,k5⟩:=hk S1 v g4 h2 br x ρ' g2.symm h3;exact⟨e2,S2,k1,k2,⟨ys++zs,by simp_all⟩,k4,fun X hP bK Q hQ=>g5 X hP bK _ (k5 X hP bK Q hQ)⟩
   |exit id=>cases h2;cases h3;exact⟨.exit id,S1,rfl,g2,⟨ys,g3⟩,g4,fun X hP bK Q hQ=>g5 X hP bK _ hQ⟩
   |ret=>cases h2;cases h3;exact⟨.ret,S1,rfl,g2,⟨ys,g3⟩,g4,fun X hP bK Q hQ=>g5 X hP bK _ hQ⟩
 · split at h
   · rename_i S' HA;split at h
     · rename_i w rest hw OE;cases h;simp only[ae.aa]at hd
       cases hwd:w.aa ρ with
       |none=>simp_all
       | some o=>
        obtain⟨e,S1,br,v,h1,h2,h3⟩:=rN (fun x br hx=> (ha ρ x br hl hx).bare) (fun e S1 br ht d u1 hf=>Df hf) hw hwd;obtain⟨e',rh,g1,g2,⟨ys,g3⟩,g4,g5⟩:=ha ρ _ _ hl h1;cases g1
        cases e with
        |normal=>
         subst g3;obtain⟨as,zs',j1,j2,j3,j4⟩:=km hT hl g2 g4 h2 h3;subst j1;rw[hwd]at hd;obtain⟨e2,S2,k1,k2,⟨zs,k3⟩,k4,k5⟩:=hk S' rest j2 OE _ x ρ' j3.symm hd;exact⟨e2,S2,k1,k2,⟨_,by rw[k3,cd]⟩,k4,fun X hP bK Q hQ=>g5 X hP bK _ (hle X _ _ _ (j4 X hP bK) (k5 X hP bK Q hQ))⟩
        |exit id=>
         cases h2;cases h3;rw[hwd]at hd;cases hd;exact⟨.exit id,S1,rfl,g2,⟨ys,g3⟩,g4,fun X hP bK Q hQ=>g5 X hP bK _ hQ⟩
        |ret=>
         cases h2;cases h3;rw[hwd]at hd;cases hd;exact⟨.ret,S1,rfl,g2,⟨ys,g3⟩,g4,fun X hP bK Q hQ=>g5 X hP bK _ hQ⟩
     · cases h
   · cases h
theorem YB {P:bB} {T:aU} (hT:aU.ok P T) {k0 live:Nat} {c:Code} {body:af→Option ae} (hb:∀S2 u,S2.ar=[]→body S2=some u→oV P k0 c S2 u):
  ∀(n:Nat) {S:af} {u:ae},S.ar=[]→DJ T k0 live body n S=some u→JA P k0 (fun X Q=>r7 X c n Q) S u
 |0,_,_,_,h=>by cases h
 |n+1,S,u,hg,h=>by
  simp only[DJ]at h;split at h
  · rename_i t ht;split at h
    · exact ajh hT (A:=fun X Q=>r7 X c n Q) (fun X Q st st' hl h=>P9 hl h) (hb S t hg ht) (fun S2 u hg2 hu=>YB hT hb n hg2 hu) h
    · cases h
  · cases h
theorem akr {P} {T} (hT:aU.ok P T) {k0} {c} {S S'} {t u} {as} {n} (hg:S.ar=[]) (hc:oV P k0 c S' t)
  (hi:jmp T k0 S.nv S' 0 .normal S=some (.ak (.jump n as))) (hu:t.bind (jmp T k0 S.nv S') 0=some u):oV P k0 (.loop c) S (.loop as u):=by
 intro ρ x ρ' hl hd;obtain⟨N,hN⟩:=yf hd;obtain⟨as',zs0,i1,i2,i3,i4⟩:=km (ys:=[]) hT hl (by simp_all) hg hi rfl;injection i1 with i1 i1'
 cases i1;rw[←i1']at i3 i4;simp only[eW]at i3 i4;have step:∀(n:Nat) (a:List L),S'.nv=(ρ++a).length→fG (fun a=>nc (u.aa (ρ++a))) (n+1) a=some (x,ρ')→
    ∃ e S1 ys,S1.nv=(ρ++a++ys).length∧S1.ar=[]∧
      (∀X:Fx,X.P=P→X.k0=k0→∀Q:Exit→av→Prop,Q e.to (S1.aa (ρ++a++ys))→Aw X c Q (S'.aa (ρ++a)))∧
      ((e= .normal∧∃a',S'.nv=(ρ++a').length∧fG (fun a=>nc (u.aa (ρ++a))) n a'=some (x,ρ')∧∀X:Fx,X.P=P→X.k0=k0→Le X (S1.aa (ρ++a++ys)) (S'.aa (ρ++a')))∨
       (e≠ .normal∧x= .st e S1∧ρ'=ρ++a++ys)):=by
  intro n a ha hn;simp only[fG]at hn
  cases hwd:u.aa (ρ++a)with
  |none=>rw[hwd]at hn;cases hn
  | some o=>
    obtain⟨e,S1,br,v,h1,h2,h3⟩:=rN (fun x br hx=> (hc (ρ++a) x br ha.symm hx).bare) (fun e S1 br ht d u1 hf=>Df hf) hu hwd;obtain⟨e',rh,g1,g2,⟨ys,g3⟩,g4,g5⟩:=hc (ρ++a) _ _ ha.symm h1;cases g1;subst g3;refine⟨e,S1,ys,g2,g4,g5,?_⟩
    cases e with
    | normal=>
      rw[cd]at h3;obtain⟨as,zs',j1,j2,j3,j4⟩:=km hT hl (by simp_all) g4 h2 h3;subst j1;rw[hwd]at hn;exact .inl ⟨rfl,_,j3,hn,by simp_all⟩
    |exit id=>cases h2;cases h3;rw[hwd]at hn;cases hn;simp_all
    |ret=>cases h2;cases h3;rw[hwd]at hn;cases hn;simp_all
 have fin:∀(n:Nat) (a:List L),S'.nv=(ρ++a).length→fG (fun a=>nc (u.aa (ρ++a))) n a=some (x,ρ')→
    ∃e S1,x= .st e S1∧S1.nv=ρ'.length∧(∃ys,ρ'=ρ++ys)∧S1.ar=[]∧e≠ .normal:=by
  intro n
  induction n with
  |zero=>intro a _ h;cases h
  | succ n ih=>
    intro a ha hn;obtain⟨e,S1,ys,h1,h2,_,h4⟩:=step n a ha hn;rcases h4 with⟨_,a',k1,k2,_⟩| ⟨k1,k2,k3⟩
    · exact ih a' k1 k2
    grind
 obtain⟨e,S1,f1,f2,f3,f4,f5⟩:=fin N _ i3 hN;refine⟨e,S1,f1,f2,f3,f4,fun X hP bK Q hQ=> ?_⟩;refine ahY (α:=Nat×List L) (fun p st=>st=S'.aa (ρ++p.2)∧S'.nv=(ρ++p.2).length∧fG (fun a=>nc (u.aa (ρ++a))) p.1 p.2=some (x,ρ')) (fun p=>p.1)
  (x0:=(N,as.map (At.ev ρ))) ⟨_,i4 X hP bK,rfl,i3,hN⟩ ?_
 rintro⟨n,a⟩ st ⟨rfl,ha,hn⟩
 cases n with
 |zero=>cases hn
 |succ n=>
  obtain⟨e1,S2,ys,h1,h2,h3,h4⟩:=step n a ha hn;refine h3 X hP bK _ ?_;rcases h4 with⟨rfl,a',k1,k2,k3⟩| ⟨k1,k2,k3⟩
  · exact⟨(n,a'),_,k3 X hP bK,⟨rfl,k1,k2⟩,ov n⟩
  · subst f1;cases k2;subst k3
    cases e with
    |normal=>simp_all
    |exit id=>exact hQ
    |ret=>exact hQ
theorem Zg {P:bB} {T:aU} (hT:aU.ok P T) {k0 live:Nat} {c:Code} {body:af→Option ae} {S:af} (hg:S.ar=[]) (hb:∀S2 u,S2.ar=[]→body S2=some u→oV P k0 c S2 u):
  ∀{fuel:Nat} {Ss:List af} {u:ae},D9 T k0 live body S fuel Ss=some u→oV P k0 (.loop c) S u
 |0,_,_,h=>by cases h
 | fuel + 1,Ss,u,h=>by
  simp only[D9]at h;split at h
  · rename_i S' HA;split at h
    · rename_i t ht;split at h
      · rename_i n as w h1 h2;split at h
        · rename_i hgo;cases h;exact akr hT hg (hb S' t (by simpa using hgo) ht) h1 h2
        · cases h
      · exact Zg hT hg hb h
    · cases h
  · cases h
theorem lM {P:bB} {T:aU} {C:cK} {k0:Nat} (hT:aU.ok P T) (hC:cK.ok P C) (hm:P.follows .mixedOrders=true):∀(c:Code) {n:Nat} {ex:List (Nat×Nat)} {r:Nat} {S:af} {u:ae},
  S.ar=[]→exec T C k0 c n ex r S=some u→oV P k0 c S u
 | .skip,n,ex,r,S,u,hg,h=>by
  cases h;intro ρ x ρ' hl hd;cases hd;exact⟨.normal,S,rfl,hl.symm,⟨[],by simp⟩,hg,fun X _ _ Q hQ=>Dz hQ⟩
 | .exit id,n,ex,r,S,u,hg,h=>by
  cases h;intro ρ x ρ' hl hd;cases hd;exact⟨.exit id,S,rfl,hl.symm,⟨[],by simp⟩,hg,fun X _ _ Q hQ=>apS hQ⟩
 | .ret,n,ex,r,S,u,hg,h=>by
  cases h;intro ρ x ρ' hl hd;cases hd;exact⟨.ret,S,rfl,hl.symm,⟨[],by simp⟩,hg,fun X _ _ Q hQ=>tN hQ⟩
 | .region id ops draw,n,ex,r,S,u,hg,h=>by
  intro ρ x ρ' hl hd;exact ayu hT hC hm h hl hd
 | .seq a b,n,ex,r,S,u,hg,h=>by
  simp only[exec]at h;split at h
  · rename_i t ht;exact ajj hT (lM hT hC hm a hg ht) (fun S2 u hg2 hu=>lM hT hC hm b hg2 hu) h
  · cases h
 | .block id c,n,ex,r,S,u,hg,h=>by
  simp only[exec]at h;split at h
  · rename_i t ht;intro ρ x ρ' hl hd;have hc:=lM hT hC hm c hg ht;obtain⟨e,S1,br,v,h1,h2,h3⟩:=rN (fun x br hx=> (hc ρ x br hl hx).bare) (fun e S1 br ht d u1 hf=>by cases hf;rfl) h hd;obtain⟨e',rh,g1,g2,g3,g4,g5⟩:=hc ρ _ _ hl h1;cases g1;cases h2;cases h3;refine⟨_,S1,rfl,g2,g3,g4,fun X hP bK Q hQ=>WV (g5 X hP bK _ ?_)⟩
    cases e with
    |normal=>exact hQ
    |ret=>exact hQ
    | exit vQ=>
      simp only[Ex.to,BW];by_cases hid:vQ=id
      · subst hid;rw[ay rfl];rw[ay rfl]at hQ;exact hQ
      · rw[aC hid];rw[aC (by simp_all)]at hQ;exact hQ
  · cases h
 | .scope c,n,ex,r,S,u,hg,h=>by
  intro ρ x ρ' hl hd;obtain⟨e,S1,g1,g2,g3,g4,g5⟩:=lM hT hC hm c hg h ρ x ρ' hl hd;refine⟨e,S1,g1,g2,g3,g4,fun X hP bK Q hQ=>aro (g5 X hP bK _ ?_)⟩;cases e<;>exact hQ
 | .label l,n,ex,r,S,u,hg,h=>by
  cases h;intro ρ x ρ' hl hd;cases hd;exact⟨.normal,S,rfl,hl.symm,⟨[],by simp⟩,hg,fun X _ _ Q hQ=>ani hQ⟩
 | .loop c,n,ex,r,S,u,hg,h=>by
  simp only[exec]at h;split at h
  · rename_i v hv;cases h;exact Zg hT hg (fun S2 u hg2 hu=>lM hT hC hm c hg2 hu) hv
  · intro ρ x ρ' hl hd;obtain⟨e,S1,g1,g2,g3,g4,g5⟩:=YB hT (fun S2 u hg2 hu=>lM hT hC hm c hg2 hu) 600 hg h ρ x ρ' hl hd;exact⟨e,S1,g1,g2,g3,g4,fun X hP bK Q hQ=>Rc (g5 X hP bK Q hQ)⟩
 | .cond c a b,n,ex,r,S,u,hg,h=>by
  simp only[exec]at h;have key:∀(y:At),S.arg c=some (.v (.c (.p .bool y)))→∀ρ,(S.aa ρ).arg c=some (.sc (.bool (y.ev ρ).bx)):=fun y hy ρ=>af.bH ρ hy
  split at h
  · rename_i hc;intro ρ x ρ' hl hd;obtain⟨e,S',g1,g2,g3,g4,g5⟩:=lM hT hC hm a hg h ρ x ρ' hl hd;exact⟨e,S',g1,g2,g3,g4,fun X hP bK Q hQ=>u9 (t:=true) (key _ hc ρ) (fun _=>g5 X hP bK Q hQ) (fun h=>by cases h)⟩
  · rename_i hc;intro ρ x ρ' hl hd;obtain⟨e,S',g1,g2,g3,g4,g5⟩:=lM hT hC hm b hg h ρ x ρ' hl hd;exact⟨e,S',g1,g2,g3,g4,fun X hP bK Q hQ=>u9 (t:=false) (key _ hc ρ) (fun h=>by cases h) (fun _=>g5 X hP bK Q hQ)⟩
  · rename_i y _ _ hc;split at h
    · rename_i u1 u2 h1 h2;cases h;intro ρ x ρ' hl hd;simp only[ae.aa]at hd;split at hd
      · rename_i ht;obtain⟨e,S',g1,g2,g3,g4,g5⟩:=lM hT hC hm a hg h1 ρ x ρ' hl hd;exact⟨e,S',g1,g2,g3,g4,fun X hP bK Q hQ=>u9 (key _ hc ρ) (fun _=>g5 X hP bK Q hQ) (fun h=>by rw[ht]at h;cases h)⟩
      · rename_i ht;obtain⟨e,S',g1,g2,g3,g4,g5⟩:=lM hT hC hm b hg h2 ρ x ρ' hl hd;exact⟨e,S',g1,g2,g3,g4,fun X hP bK Q hQ=>u9 (key _ hc ρ) (fun h=>absurd h ht) (fun _=>g5 X hP bK Q hQ)⟩
    · cases h
  · cases h
 | .rangeFunc ..,_,_,_,_,_,_,h=>by cases h
 | .goto ..,_,_,_,_,_,_,h=>by cases h
 | .refuse ..,_,_,_,_,_,_,h=>by cases h
def rP:List ResultVar→Nat
 |[]=>0
 | .tmp t::r=> (1<<<t)|||rP r
 | .cell t _::r=> (1<<<t)|||rP r
def ae.rO:ae→List af
 | .ak (.st .normal S)=> [S]
 | .ak (.st .ret S)=> [S]
 | .ak _=> []
 | .op _ k=>k.rO
 | .ite _ a b=>a.rO++b.rO
 | .join a b=>a.rO++b.rO
 | .loop _ b=>b.rO
def fin (T:aU) (k0 aK:Nat) (S':af) (d:Nat) (e:Ex) (S:af):Option ae:=match e with
 | .exit _=>none
 |_=>jmp T k0 aK S' d .normal S
def SV.one:SV→Option aF
 | .v x=>some x
 | .aj _=>none
def um (T:aU) (S:af):ResultVar→Option aF
 | .tmp t=> (S.tmps[t]?).bind SV.one
 | .cell t ty=>match S.tmps[t]? with
  |some (.v (.c (.ptr n off)))=>match List.lookup n S.heap,List.lookup ty T with
   |some (.box cs),some r=> (FU r (cs.drop off)).bind SV.one
   |_,_=>none
  |_=>none
def afY:List aF→SV
 |[x]=> .v x
 |xs=> .aj xs
def D1 (T:aU) (rs:List ResultVar) (S:af):Option SV:=(rs.mapM (um T S)).map afY
theorem one_den {ρ} {v:SV} {x} (h:v.one=some x):(v.aa ρ).one=some (x.aa ρ):=by
 cases v with
 |v y=>cases h;rfl
 |aj=>cases h
theorem axE {P} {T} (hT:aU.ok P T) {S} {ρ} {rv} {x} (h:um T S rv=some x):nD P (S.aa ρ) rv=some (x.aa ρ):=by
 have ht:∀t:Nat,(S.aa ρ).tmps[t]? =(S.tmps[t]?).map (SV.aa ρ):=fun t=>by simp[af.aa]
 cases rv with
 |tmp t=>
  simp only[um,iu]at h;obtain⟨v,h1,h2⟩:=h;simp only[nD,ht,h1,aV,rD,one_den h2]
 |cell t ty=>
  simp only[um]at h;split at h
  · rename_i n off h1;split at h
    · rename_i cs r h2 h3;simp only[iu]at h;obtain⟨v,h4,h5⟩:=h;have:=hT _ _ h3;subst this;have h6:=Qh ρ h4;have hb:(S.aa ρ).heap.lookup n=some (.box (cs.map (SC.aa ρ))):=by
       rw[dE,h2];rfl
      simp only[nD,ht,h1,aV,SV.aa,aF.aa,SC.aa,hb];rw[←ml,h6];exact one_den h5
    · cases h
  · cases h
theorem UE {P} {T} (hT:aU.ok P T) {S} {ρ} {rs} {x} (h:D1 T rs S=some x):sf P rs (S.aa ρ)=some (x.aa ρ):=by
 simp only[D1,aT]at h;obtain⟨xs,h1,rfl⟩:=h;have key:∀{rs:List ResultVar} {xs:List aF},rs.mapM (um T S)=some xs→rs.mapM (nD P (S.aa ρ))=some (xs.map (aF.aa ρ)):=by
  intro rs
  induction rs with
  |nil=>simp_all
  | cons r rs ih=>
   intro xs h;rw[rE]at h⊢
   cases h1:um T S r with
   |none=>simp_all
   | some y=>
    cases h2:rs.mapM (um T S)with
    |none=>simp_all
    |some ys=>
     rw[h1,h2]at h;cases h;rw[axE hT h1,ih h2];rfl
 simp only[sf,key h1,aV]
 cases xs with
 |nil=>rfl
 |cons x xs=>
  cases xs with
  |nil=>rfl
  |cons=>rfl
structure zL where
 JT:ae
 res:SV
 out:bY
 iF:Nat
def sh (n cY:Nat) (params:List aF) (H:List SB):af:=⟨params.map SV.v++List.replicate (n-params.length) (.aj []),H.zipIdx.map fun x=> (x.2,x.1),[],H.length,cY⟩
def SC.to (f:Nat→Nat):SC→SC
 | .own n=> .own (f n)
 | .sub n a b=> .sub (f n) a b
 | .ptr n o=> .ptr (f n) o
 | .gy n o c m i=> .gy (f n) o c m i
 | .cE n i j=> .cE (f n) i j
 | .fn g ns=> .fn g (ns.map f)
 | .mp n=> .mp (f n)
 |c=>c
def af.order (k0:Nat) (S:af):af:=
 let tops:=S.tmps.filterMap fun x=>match x with
  | .v (.c (.ptr n _))=>if k0≤n then some n else none
  |_=>none
 let ns:=(List.range (S.next-k0)).map (· +k0)
 let ord:=ns.filter (fun n=> !tops.contains n)++ns.filter (fun n=>tops.contains n)
 let f:=fun n=>if n<k0 then n else k0+(ord.findIdx (· ==n))
 {S with tmps:=S.tmps.map (SV.ez (SC.to f)),heap:=S.heap.map fun x=> (f x.1,x.2.ez (SC.to f) id)}
def reach (h:bY):Nat→List Nat→List Nat
 |0,ns=>ns
 |fuel+1,ns=>reach h fuel (ns++(ns.flatMap fun n=>match List.lookup n h with
  |some (.box cs)=> (cs.flatMap SC.names).filter fun m=> !ns.contains m
  |_=> []).eraseDups)
def Mw (T:aU) (C:cK) (c:Code) (n:Nat) (rs:List ResultVar) (cY:Nat) (params:List aF) (H:List SB):Option zL:=
 match exec T C H.length c (rP rs) [] (rP rs) (sh n cY params H)with
 | some t=>match(merge (rP rs) H.length cY t.rO).map (af.order H.length)with
  |some S'=>match t.bind (fin T H.length cY S') 0,D1 T rs S' with
   |some u,some r=>some ⟨u,r,S'.heap.filter (fun x=> (reach S'.heap 4 (List.range H.length++r.names)).contains x.1),S'.nv-cY⟩
   |_,_=>none
  |none=>none
 |none=>none
def kz (o:Out):Option (List L):=match o with
 |some (.jump _ as,ρ)=>some (as.map (At.ev ρ))
 |_=>none
noncomputable def zL.sig (o:zL) (f:FuncId) (cY:Nat) (params:List aF) (H:List SB) (F:List L→Option (List L)) (tag:Nat):au:=⟨f,params,H,cY,o.iF,o.res,o.out,F,tag⟩
theorem uC {X} {c} {Q} {st} (h:Aw X c (fun e st=>∃st',Le X st st'∧Q e st') st):Aw X c Q st:=fun a w ht=>
 wp_mono (h a w ht) fun _ _ _ ⟨_,⟨st',h1,h2⟩,h3⟩=> ⟨st',h2,h1 _ _ h3⟩
theorem Rt {n cY} {params} {H} {ρ}:(sh n cY params H).aa ρ=nR n (params.map (aF.aa ρ)) (H.map (SB.aa ρ)):=by
 unfold sh nR af.aa;congr 1
 · simp only[dk,gd,abQ,aA];rfl
 · simp only[bY.aa,hp,gd,List.zipIdx_map];rfl
 · simp
theorem P0 {T} {k0 aK} {S'} {d} {e} {S} {u1} {br} (h:fin T k0 aK S' d e S=some u1):u1.aa br=((fin T k0 aK S' 0 e S).bind (·.aa br)).map (lift d):=by
 cases e with
 |exit=>cases h
 |_=>
  simp only[fin]at h⊢;exact Df h
theorem Ew {g:Nat→Bool} {n} {b}:∀{h:bY},List.lookup n (h.filter fun x=>g x.1)=some b→List.lookup n h=some b
 |[],h1=>by cases h1
 | (k,b')::h,h1=>by
  rw[List.filter_cons]at h1;rw[gW];split at h1
  · rw[gW]at h1;split
    · simp_all
    · rename_i hk;rw[hk]at h1;exact Ew h1
  · rename_i hg;split
    · rename_i hk;simp at hk;subst hk;exfalso;have:∀{h:bY},List.lookup n (h.filter fun x=>g x.1)=some b→g n=true:=by
       intro h h2;have:=H3.1 (BS h2);exact this.2
      exact hg (this h1)
    · exact Ew h1
theorem ahJ {P} {T} {C} (hT:aU.ok P T) (hC:cK.ok P C) (hm:P.follows .mixedOrders=true) {f} {fn} {c} (hf:P.funcs[f]? =some fn) (hname:(fn.name== "runtime.NumGoroutine")=false)
   (hb:fn.body=some c) {n} (hn:fn.ntmps=n) {rs} (lE:fn.results=rs.toArray) {cY} {params} {H} {o} (h:Mw T C c n rs cY params H=some o)
   {F} (hF:∀ls,F ls=kz (o.JT.aa ls)) (tag):(o.sig f cY params H F tag).ok P:=by
 intro ls os hl vY cg;unfold Mw at h;split at h
 · rename_i t ht;split at h
   · rename_i S' HA;split at h
     · rename_i u r hu hr;cases h;have CC:=lM hT hC hm c (S:=sh n cY params H) rfl ht;replace vY:F ls=some os:=vY;rw[hF]at vY;simp only[kz]at vY;split at vY
       · rename_i k as ρ' hd;cases vY;have hl':ls.length=(sh n cY params H).nv:=hl;obtain⟨e,S1,br,v,h1,h2,h3⟩:=rN (fun x br hx=> (CC ls x br hl' hx).bare) (fun e S1 br ht d u1 hf=>P0 hf) hu hd;obtain⟨e',rh,g1,g2,⟨ys,g3⟩,g4,g5⟩:=CC ls _ _ hl' h1;cases g1;subst g3;have key:(e= .normal∨e= .ret)∧∀X:Fx,X.P=P→X.k0=H.length→Le X (S1.aa (ls++ys)) (S'.aa (ls++as.map (At.ev ρ'))):=by
           cases e with
           |exit=>cases h2
           |_=>
            obtain⟨as',zs,j1,_,_,j4⟩:=km hT hl g2 g4 h2 h3;cases j1;exact⟨by simp,j4⟩
         obtain⟨he,hle⟩:=key;refine eJ.intro hf hname hb hn lE (fun X hP bK=> ?_);rw[aA]at bK;rw[←Rt];refine uC (g5 X hP bK _ ⟨_,hle X hP bK,?_⟩);refine⟨?_,UE hT hr,fun n b lC=> ?_⟩;rotate_left
         · rw[dE];rw[bY.ED]at lC;simp only[aT]at lC;obtain⟨b0,hb0,rfl⟩:=lC;rw[Ew hb0];rfl
         rcases he with rfl|rfl<;>trivial
       · cases vY
     · cases h
   · cases h
 · cases h
def Ej (T:aU) (C:cK) (fn:Func) (cY:Nat) (params:List aF) (H:List SB):Option zL:=match fn.body with
 |some c=>Mw T C c fn.ntmps fn.results.toList cY params H
 |none=>none
theorem awC {P} {T} {C} (hT:aU.ok P T) (hC:cK.ok P C) (hm:P.follows .mixedOrders=true) {f} {fn} (hf:P.funcs[f]? =some fn) (hname:(fn.name== "runtime.NumGoroutine")=false)
   {cY} {params} {H} {o} (h:Ej T C fn cY params H=some o) {F} (hF:∀ls,F ls=kz (o.JT.aa ls)) (tag):(o.sig f cY params H F tag).ok P:=by
 unfold Ej at h;split at h
 · rename_i c hc;exact ahJ hT hC hm hf hname hc rfl (by simp) h hF tag
 · cases h
noncomputable def Fo (x:ae):List L→Option (List L):=fun ls=>kz (x.aa ls)
end
section
open Go.RowKit
namespace AI
structure Inv where
 sp:List Nat
 ts:List oy
 t:Nat
 up:Bool
 b:Nat
 c:Int
deriving Inhabited
inductive xN where
 |e
 |b (x y:xN)
 |j (sp:List Nat) (ts:List oy) (x y:xN)
 |l (i:Inv) (x:xN)
deriving Inhabited
def xN.snd:xN→xN
 | .b _ y=>y
 | .j _ _ _ y=>y
 |_=> .e
structure Lv where
 k:Nat
 S:AS
 xs:List At
deriving Inhabited
def AS.vg (S:AS) (N:oK):Option AS:=(S.push N).map fun S'=> {S' with env:=S.env}
theorem Ga.vg {S S'} {τ ρ} (h:Ga S τ ρ) {N} {l} (hp:S.vg N=some S') (hN:N.ok τ l):Ga S' (τ++ [l]) ρ∧S'.env=S.env:=by
 simp only[AS.vg,aT]at hp;obtain⟨S1,h1,rfl⟩:=hp;have k:=h.push h1 hN;have hn:S1.n=S.n+1:=by
   unfold AS.push at h1;grind
 refine⟨⟨k.n,?_,fun g hg=> ?_,k.fs,k.rw,k.cl,k.bd,k.al,k.ll,k.sm,k.pr⟩,rfl⟩
 · rw[h.env];exact fK fun g hg=> (w5 (by rw[h.n];exact h.lt g hg)).symm
 · have:=h.lt g hg;show g<S1.n;omega
def AS.names (S:AS):List At→Option (List Nat×AS)
 |[]=>some ([],S)
 | x::xs=>match x with
  | .v i=>match S.env[i]? with
   |some g=> (S.names xs).map fun y=> (g::y.1,y.2)
   |none=>none
  | .i c=> (S.vg {al:=some (0,c)}).bind fun S'=> (S'.names xs).map fun y=> (S.n::y.1,y.2)
  | .b t=> (S.vg {bd:=some (.oF t)}).bind fun S'=> (S'.names xs).map fun y=> (S.n::y.1,y.2)
  | .s x=> (S.vg {fs:=fEq (3*S.n+3) (0,x.size)}).bind fun S'=> (S'.names xs).map fun y=> (S.n::y.1,y.2)
  | .r0=> (S.vg {rw:=some none,ll:=some (0,0)}).bind fun S'=> (S'.names xs).map fun y=> (S.n::y.1,y.2)
end AI
namespace AI
def sx.wf (s:sx):Bool:=s.pre.fs.all (Fa.in s.cY)&&s.pre.rw.all (fun x=>decide (x.1<s.cY))&&s.pre.bs.all (fun x=>decide (x.1<s.cY))&&s.pre.pr.all (fun x=>x.2.all fun g=>decide (g<s.cY))
end AI
theorem axf {A R} {f} (I:A→Prop) (Q:R→Prop) (mu:A→Nat)
  (step:∀a,I a→(∃r,f a=some (.inr r)∧Q r)∨(∃a',f a=some (.inl a')∧I a'∧mu a'<mu a)):
  ∀a,I a→∃r,gz f a=some r∧Q r:=by
 have key:∀(n:Nat) (a:A),mu a≤n→I a→∃r,gz f a=some r∧Q r:=by
  intro n
  induction n with
  |zero=>
   intro a hm hI;rcases step a hI with⟨r,h1,h2⟩| ⟨a',_,_,h3⟩
   · exact⟨r,FT h1,h2⟩
   · omega
  |succ n ih=>
   intro a hm hI;rcases step a hI with⟨r,h1,h2⟩| ⟨a',h1,h2,h3⟩
   · exact⟨r,FT h1,h2⟩
   · obtain⟨r,h4,h5⟩:=ih a' om h2;exact⟨r,by rw[Bc h1];exact h4,h5⟩
 exact fun a hI=>key _ a (cn _) hI
def ae.wp (f:ae) (ρ:List L) (Q:Lf×List L→Prop):Prop:=∃r,f.aa ρ=some r∧Q r
def si (rest:ae) (ρ:List L) (Q:Lf×List L→Prop) (r:Lf×List L):Prop:=match r with
 | (.jump 0 args,ρ')=>rest.wp (ρ++args.map (At.ev ρ')) Q
 | (.jump (k+1) args,ρ')=>Q (.jump k args,ρ')
 |r=>Q r
def vf (I:List L→Prop) (mu:List L→Nat) (a:List L) (Q:Lf×List L→Prop) (r:Lf×List L):Prop:=match r with
 | (.jump 0 args,ρ')=>I (args.map (At.ev ρ'))∧mu (args.map (At.ev ρ'))<mu a
 | (.jump (k+1) args,ρ')=>Q (.jump k args,ρ')
 |r=>Q r
def kW (Q:List L→Prop) (r:Lf×List L):Prop:=match r with
 | (.jump 0 args,ρ')=>Q (args.map (At.ev ρ'))
 |_=>False
section
variable {ρ:List L} {Q:Lf×List L→Prop}
theorem u5 {x}:(ae.ak x).wp ρ Q=Q (x,ρ):=by
 apply propext;constructor
 · rintro⟨r,h1,h2⟩;cases h1;exact h2
 · intro h;exact⟨_,rfl,h⟩
theorem aqW {nd} {k}:(ae.op nd k).wp ρ Q=match nd.ev ρ with|some ls=>k.wp (ρ++ls) Q|none=>False:=by
 unfold ae.wp;simp only[ae.aa]
 cases nd.ev ρ with
 |none=>simp
 |some ls=>rfl
theorem qv {c} {a b}:(ae.ite c a b).wp ρ Q=if(c.ev ρ).bx=true then a.wp ρ Q else b.wp ρ Q:=by
 unfold ae.wp;simp only[ae.aa];split<;>rfl
theorem sO {a b}:(ae.join a b).wp ρ Q=a.wp ρ (si b ρ Q):=by
 apply propext;unfold ae.wp;simp only[ae.aa];constructor
 · rintro⟨r,h1,h2⟩;split at h1
   · rename_i args ρ' ha;exact⟨_,ha,r,h1,h2⟩
   · rename_i k args ρ' ha;cases h1;exact⟨_,ha,h2⟩
   · rename_i h3 h4;refine⟨r,h1,?_⟩;obtain⟨lf,ρ'⟩:=r
     cases lf with
     |st=>exact h2
     |jump k args=>cases k with
      |zero=>exact absurd h1 (h3 _ _)
      |succ k=>exact absurd h1 (h4 _ _ _)
 · rintro⟨⟨lf,ρ'⟩,h1,h2⟩;rw[h1]
   cases lf with
   |st=>exact⟨_,rfl,h2⟩
   | jump k args=>cases k with
     |zero=>exact h2
     |succ k=>exact⟨_,rfl,h2⟩
theorem wp_loop {init} {body} (I) (mu) (h0:I (init.map (At.ev ρ))) (step:∀a,I a→body.wp (ρ++a) (vf I mu a Q)):(ae.loop init body).wp ρ Q:=by
 refine axf (f:=fun a=>nc (body.aa (ρ++a))) I Q mu (fun a ha=> ?_) _ h0;obtain⟨⟨lf,ρ'⟩,h1,h2⟩:=step a ha
 cases lf with
 |st e S=>exact .inl ⟨(.st e S,ρ'),by rw[h1];rfl,h2⟩
 |jump k args=>cases k with
  |zero=>exact .inr ⟨_,by rw[h1];rfl,h2.1,h2.2⟩
  |succ k=>exact .inl ⟨(.jump k args,ρ'),by rw[h1];rfl,h2⟩
theorem ae.wp.mono {f:ae} {Q'} (h:f.wp ρ Q) (hQ:∀r,Q r→Q' r):f.wp ρ Q':=by
 obtain⟨r,h1,h2⟩:=h;exact⟨r,h1,hQ r h2⟩
end
theorem iH {f} {ls} {Q} (h:f.wp ls (kW Q)):∃o,Fo f ls=some o∧Q o:=by
 obtain⟨⟨lf,ρ'⟩,h1,h2⟩:=h
 cases lf with
 |st=>exact h2.elim
 |jump k args=>cases k with
  |zero=>exact⟨_,by unfold Fo;rw[h1];rfl,h2⟩
  |succ k=>exact h2.elim
section
variable {α:Type} {a:α} {l m:List α} {n:Nat}
theorem d1:(a::l)++m=a::(l++m):=rfl
theorem d2:([]:List α)++m=m:=rfl
theorem d3:(a::l)[n+1]? =l[n]?:=rfl
theorem d4:(a::l)[0]? =some a:=rfl
theorem d5 {b}:(some a).getD b=a:=rfl
theorem d6 {n}:(L.i n).ah=n:=rfl
theorem d7 {b}:(L.b b).bx=b:=rfl
theorem d8 {b}:(L.r b).az=b:=rfl
theorem d9 {b}:(L.c b).jk=b:=rfl
theorem e0 {b}:(L.s b).eQ=b:=rfl
end
namespace AI
theorem wrap64 {n} (h0: -9223372036854775808≤n) (h1:n≤9223372036854775807):IntKind.wrap .i64 n=n:=vr .i64 h0 h1
theorem avS (k:dZ) (n):k.min≤k.wrap n∧k.wrap n≤k.max:=by
 have:=(awQ (k:=some k) (t:=1) (τ:=[.i (k.wrap n)]) (n:=n) rfl)
 have h1:=this _ iL;have h2:=this _ (iM _ iL);simp[Fa.holds,An,BO,dP,L.ah]at h1 h2;omega
end AI
theorem aH {f} {ls o} (h:f.wp ls (kW fun x=>x=o)):Fo f ls=some o:=by
 obtain⟨x,h1,rfl⟩:=iH h;exact h1
theorem fu {b} {P} (hb:b=true ↔ P) (h:¬P):b=false:=by
 cases b with
 |true=>exact absurd (hb.1 rfl) h
 |false=>rfl
section
variable {ρ:List L} {Q:Lf×List L→Prop} {k:ae}
theorem gp {nd}:(ae.op nd k).wp ρ Q=∃ls,nd.ev ρ=some ls∧k.wp (ρ++ls) Q:=by
 rw[aqW];cases nd.ev ρ<;>simp
theorem Ab {o} {P:List L→Prop}:(∃ls,o.map ([·])=some ls∧P ls)=∃l,o=some l∧P [l]:=by
 cases o<;>simp
theorem uH {op} {kd} {x y}:(ae.op (.bi op kd x y) k).wp ρ Q=∃l,cU op kd (x.ev ρ).ah (y.ev ρ).ah=some l∧k.wp (ρ++ [l]) Q:=by
 rw[gp];exact Ab
theorem vz {op} {x y}:(ae.op (.bs op x y) k).wp ρ Q=∃l,Aq op (x.ev ρ).eQ (y.ev ρ).eQ=some l∧k.wp (ρ++ [l]) Q:=by
 rw[gp];exact Ab
theorem vv {op} {x y}:(ae.op (.bb op x y) k).wp ρ Q=∃l,mF op (x.ev ρ).bx (y.ev ρ).bx=some l∧k.wp (ρ++ [l]) Q:=by
 rw[gp];exact Ab
theorem xM {x}:(ae.op (.not x) k).wp ρ Q=k.wp (ρ++ [.b (!(x.ev ρ).bx)]) Q:=by rw[gp];simp[Nd.ev]
theorem yK {kd} {x}:(ae.op (.conv kd x) k).wp ρ Q=k.wp (ρ++ [.i (kd.wrap (x.ev ρ).ah)]) Q:=by rw[gp];simp[Nd.ev]
theorem w6 {x}:(ae.op (.len x) k).wp ρ Q=k.wp (ρ++ [.i (x.ev ρ).az.length]) Q:=by rw[gp];simp[Nd.ev]
theorem uX {x i} {n}:(ae.op (.row x i n) k).wp ρ Q=(0≤(i.ev ρ).ah∧∃r,(x.ev ρ).az[(i.ev ρ).ah.toNat]? =some r∧r.length=n∧k.wp (ρ++ [.c r]) Q):=by
 rw[gp];simp only[Nd.ev];by_cases h0:0≤(i.ev ρ).ah
 · simp only[h0,if_true,true_and]
   cases(x.ev ρ).az[(i.ev ρ).ah.toNat]? with
   |none=>simp
   |some r=>by_cases hr:r.length=n<;>simp[hr]
 · simp[h0]
theorem uG {x i} {j} {kd}:(ae.op (.rc x i j kd) k).wp ρ Q=∃r,(x.ev ρ).az[(i.ev ρ).ah.toNat]? =some r∧∃q,r[j]? =some q∧∃l,kd.of q=some l∧k.wp (ρ++ [l]) Q:=by
 rw[gp];simp only[Nd.ev];apply propext
 cases(x.ev ρ).az[(i.ev ρ).ah.toNat]? with
 |none=>simp
 |some r=>cases hr:r[j]? with
  |none=>simp[hr]
  |some q=>simp only[jd,hr,exists_eq_left'];exact iff_of_eq Ab
theorem uh {x} {j} {kd}:(ae.op (.cl x j kd) k).wp ρ Q=∃q,(x.ev ρ).jk[j]? =some q∧∃l,kd.of q=some l∧k.wp (ρ++ [l]) Q:=by
 rw[gp];simp only[Nd.ev];apply propext
 cases(x.ev ρ).jk[j]? with
 |none=>simp
 |some q=>simp only[jd,exists_eq_left'];exact iff_of_eq Ab
theorem AM {α:Type} {c} [Decidable c] {a} {P:α→Prop}:(∃x,(if c then some a else none)=some x∧P x)=(c∧P a):=by
 by_cases h:c<;>simp[h]
theorem tF {i} {c}:(ae.op (.dD i c) k).wp ρ Q=((0≤(i.ev ρ).ah∧(i.ev ρ).ah<c)∧k.wp (ρ++ []) Q):=by rw[gp];exact AM
theorem u_ {xs} {i}:(ae.op (.fH xs i) k).wp ρ Q=∃x,xs[(i.ev ρ).ah.toNat]? =some x∧k.wp (ρ++ [x.ev ρ]) Q:=by
 rw[gp];simp only[Nd.ev];cases xs[(i.ev ρ).ah.toNat]? <;>simp
theorem xk {x i} {n} {y}:(ae.op (.cj x i n y) k).wp ρ Q=k.wp (ρ++ [if(i.ev ρ).ah.toNat=n then y.ev ρ else x.ev ρ]) Q:=by rw[gp];simp[Nd.ev]
theorem wB {x lo hi} {n}:(ae.op (.part x lo hi n) k).wp ρ Q=((0≤(lo.ev ρ).ah∧(lo.ev ρ).ah≤(hi.ev ρ).ah∧(hi.ev ρ).ah.toNat≤(x.ev ρ).az.length∧bu n (x.ev ρ).az=true)∧k.wp (ρ++ [.r (((x.ev ρ).az.take (hi.ev ρ).ah.toNat).drop (lo.ev ρ).ah.toNat)]) Q):=by rw[gp];exact AM
theorem vo {x lo hi} {n}:(ae.op (.cut x lo hi n) k).wp ρ Q=((0≤(lo.ev ρ).ah∧(lo.ev ρ).ah≤(hi.ev ρ).ah∧(hi.ev ρ).ah.toNat≤(x.ev ρ).az.length∧sr n (x.ev ρ).az=true)∧k.wp (ρ++ [.i (((hi.ev ρ).ah.toNat- (lo.ev ρ).ah.toNat:Nat):Int)]) Q):=by rw[gp];exact AM
theorem w8 {x lo ln}:(ae.op (.vw x lo ln) k).wp ρ Q=k.wp (ρ++ [.r (((x.ev ρ).az.drop (lo.ev ρ).ah.toNat).take (ln.ev ρ).ah.toNat)]) Q:=by rw[gp];simp[Nd.ev]
theorem xh {x ln}:(ae.op (.tk x ln) k).wp ρ Q=k.wp (ρ++ [.r ((x.ev ρ).az.take (ln.ev ρ).ah.toNat)]) Q:=by rw[gp];simp[Nd.ev]
theorem u7 {x y} {n b}:(ae.op (.app x y n b) k).wp ρ Q=(((x.ev ρ).az.length+(y.ev ρ).az.length≤9223372036854775807∧((x.ev ρ).az.length+(y.ev ρ).az.length)*b≤140737488355328∧bu n (x.ev ρ).az=true∧bu n (y.ev ρ).az=true)∧k.wp (ρ++ [.r ((x.ev ρ).az++(y.ev ρ).az)]) Q):=by rw[gp];exact AM
theorem uS {x i} {j} {ps}:(ae.op (.set x i j ps) k).wp ρ Q=∃r,(x.ev ρ).az[(i.ev ρ).ah.toNat]? =some r∧j+ps.length≤r.length∧k.wp (ρ++ [.r ((x.ev ρ).az.set (i.ev ρ).ah.toNat (r.take j++cb ρ ps++r.drop (j+ps.length)))]) Q:=by
 rw[gp];simp only[Nd.ev]
 cases(x.ev ρ).az[(i.ev ρ).ah.toNat]? with
 |none=>simp
 |some r=>by_cases hr:j+ps.length≤r.length<;>simp[hr]
theorem yP {rows}:(ae.op (.lit rows) k).wp ρ Q=k.wp (ρ++ [.r (rows.map (cb ρ))]) Q:=by rw[gp];simp[Nd.ev]
theorem x7 {x y}:(ae.op (.mn x y) k).wp ρ Q=k.wp (ρ++ [.i (if(y.ev ρ).ah< (x.ev ρ).ah then(y.ev ρ).ah else(x.ev ρ).ah)]) Q:=by rw[gp];simp[Nd.ev]
theorem yp {x y}:(ae.op (.mx x y) k).wp ρ Q=k.wp (ρ++ [.i (if(y.ev ρ).ah> (x.ev ρ).ah then(y.ev ρ).ah else(x.ev ρ).ah)]) Q:=by rw[gp];simp[Nd.ev]
theorem tB {t} {F} {args} {n} {us}:(ae.op (.call t F args n us) k).wp ρ Q=∃l,F (args.map (At.ev ρ))=some l∧(l.length=n∧(us.all fun i=> ((l[i]?).getD (.b false)).az.all (·.all PV.bare))=true)∧k.wp (ρ++l) Q:=by
 rw[gp];simp only[Nd.ev];apply propext
 cases F (args.map (At.ev ρ))with
 |none=>simp
 |some l=>simp only[jd,exists_eq_left'];exact iff_of_eq AM
end
theorem ark {ρ} {Q} {c} {a b}:(ae.ite c a b).wp ρ Q=(((c.ev ρ).bx=true→a.wp ρ Q)∧((c.ev ρ).bx=false→b.wp ρ Q)):=by
 rw[qv];cases(c.ev ρ).bx<;>simp
end
end
end Go.Proofs.YtndegphojkiblaaGreatDoor
