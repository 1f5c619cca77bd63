/- Towards the last file's theorem: part 37. -/
import Derived.Test.YtndegphojkiblaaGreatDoorG31
import Derived.Test.YtndegphojkiblaaGreatDoorG32
import Derived.Test.YtndegphojkiblaaGreatDoorG33
import Derived.Test.YtndegphojkiblaaGreatDoorG34
import Derived.Test.YtndegphojkiblaaGreatDoorG35
import Derived.Test.YtndegphojkiblaaGreatDoorG36
set_option linter.all false
set_option maxHeartbeats 4000000
set_option maxRecDepth 100000
namespace Go.Proofs.YtndegphojkiblaaGreatDoor
noncomputable section
section
open Go.RowKit AI
theorem I8 {P:List Nat→Prop} (h0:P [0,1,2,3]) (h1:P [0,1,2,4]) (h2:P [0,1,2,5]) (h3:P [0,1,3,4]) (h4:P [0,1,3,5]) (h5:P [0,1,4,5]) (h6:P [0,2,3,4]) (h7:P [0,2,3,5]) (h8:P [0,2,4,5]) (h9:P [0,3,4,5]) (h10:P [1,2,3,4]) (h11:P [1,2,3,5]) (Io:P [1,2,4,5]) (h13:P [1,3,4,5]) (h14:P [2,3,4,5]):∀q∈kv,P q:=by
 intro q hq;have e:kv=[[0,1,2,3],[0,1,2,4],[0,1,2,5],[0,1,3,4],[0,1,3,5],[0,1,4,5],[0,2,3,4],[0,2,3,5],[0,2,4,5],[0,3,4,5],[1,2,3,4],[1,2,3,5],[1,2,4,5],[1,3,4,5],[2,3,4,5]]:=rfl;rw[e]at hq;simp only[cU,lS,or_false]at hq;rcases hq with rfl|rfl|rfl|rfl|rfl|rfl|rfl|rfl|rfl|rfl|rfl|rfl|rfl|rfl|rfl<;>assumption
theorem aDP:∀q∈kv,mP q=true:=I8 mP0 mP1 mP2 mP3 mP4 mP5 mP6 mP7 mP8 mP9 atY asJ aFz azR avt
theorem atW:∀q∈kv,mM q=true:=I8 mM0 mM1 mM2 mM3 mM4 mM5 mM6 mM7 mM8 mM9 apW ajm anH ayJ ayg
theorem aEU:∀q∈kv,mR q=true:=I8 mR0 mR1 mR2 mR3 mR4 mR5 mR6 mR7 mR8 mR9 aCQ amG arJ aAa auA
theorem auc {q:List Nat} (h:q∈kv):wV [.i 6,.i 4,.r (iE.map b1),.r (q.map kR)]=some [.i 0,.i 4,.i 4,.r ((partOf q).map b1)]:=Wk _ _ (nC (bk.1 asV q h))
theorem akq {q:List Nat} (h:q∈kv):xJ [.i 4,.i 4,.r ((partOf q).map b1)]=some [.i 0,.i 4,.r ((gl q).map b1)]:=aeB _ _ (nC (aDP q h))
theorem ayY {q:List Nat} (h:q∈kv):yp [.i 6,.i 4,.r (iE.map b1),.i 4,.i 4,.r ((gl q).map b1)]=some [.i 0,.i 6,.i 4,.r ((jn q).map b1)]:=Zq _ _ (nC (atW q h))
theorem asK {p:List Nat} (h:p∈HT):G7 [.i 6,.i 4,.r (iE.map b1),.r (p.map kR),.i 0,.i 4]=some [.i 0,.i 4,.i 4,.r ((partOf (p.take 4)).map b1)]:=aEc _ _ (nC (bk.1 anw p h))
theorem aoK {q:List Nat} (h:q∈kv):xR [.i 4,.i 4,.r ((partOf q).map b1)]=some [.i 0,.i 4,.r ((gl q).map b1)]:=aco _ _ (nC (aEU q h))
theorem avT:xq.all (fun c=>Nat.beq c 0||uQ c)=true:=kr
theorem aCG {c:Nat} (h:(Nat.beq c 0||uQ c)=true):c=0∨uQ c=true:=by
 rw[rV]at h;exact h.imp p_ id
theorem YQ:xq.all (Nat.blt · 256)=true:=kr
theorem aoo:kv.all (fun q=>Nat.beq (jn q).length 24&& (jn q).all xq.contains)=true:=kr
theorem azt:iE.all xq.contains=true:=kr
end
section
open Go.RowKit AI
attribute [local irreducible] ad.wp
def eJ (us:List Bool) (i:Nat):List Nat:=(List.range i).filter fun k=>us.getD k false
def qL (us:List Bool) (i:Nat):List Nat:=(eJ us i).take 4
def dS (ps:List (List Nat)) (q:List Nat):List (List Nat):=q.map fun k=>ps.getD k []
theorem Pp (us:List Bool) (i:Nat):eJ us (i+1)=if us.getD i false=true then eJ us i++ [i]else eJ us i:=by
 unfold eJ;rw[SP,List.filter_append];split
 · rename_i h;rw[List.filter_cons_of_pos (by simpa using h)];rfl
 · rename_i h;rw[List.filter_cons_of_neg (by simpa using h)];simp
theorem agj (us:List Bool):∀i,(eJ us i).length≤i
 |0=>cT _
 |i+1=>by
  have:=agj us i;rw[Pp];split
  · rw[dL,um];omega
  · omega
theorem ael {us:List Bool} {i k:Nat} (h:k∈eJ us i):k<i∧us.getD k false=true:=by
 unfold eJ at h;rw[qa,ko]at h;exact h
theorem ani (us:List Bool) (i:Nat):qL us (i+1)=if us.getD i false=true∧(qL us i).length<4 then qL us i++ [i]else qL us i:=by
 unfold qL;rw[Pp];by_cases h:us.getD i false=true
 · rw[au h,dX];by_cases h4:(eJ us i).length<4
   · rw[au ⟨h,om⟩,ir (by rw[dL,um];omega),ir om]
   · rw[aE om,List.take_append_of_le_length om]
 · rw[aE h,aE (fun h'=>h h'.1)]
theorem amO (us:List Bool) (i:Nat):(qL us i).length≤4:=by unfold qL;rw[dX];omega
theorem Yt {l:List (List Nat)} {a:List Nat} (h:l.contains a=true):a∈l:=by simpa using h
theorem LM {us:List Bool} (h6:us.length=6):(eJ us 6).length=us.count true∧(4≤us.count true→eJ us 6∈HT∧qL us 6∈kv):=by
 match us,h6 with
 | [a,b,c,d,e,f],_=>
  have key:∀a b c d e f:Bool,(Nat.beq (eJ [a,b,c,d,e,f] 6).length ([a,b,c,d,e,f].count true)&& (!(Nat.ble 4 ([a,b,c,d,e,f].count true))|| (HT.contains (eJ [a,b,c,d,e,f] 6)&&kv.contains (qL [a,b,c,d,e,f] 6))))=true:=by
   intro a b c d e f;cases a<;>cases b<;>cases c<;>cases d<;>cases e<;>cases f<;>kernel_rfl
  have h:=key a b c d e f;rw[bt]at h;refine⟨p_ h.1,fun h4=> ?_⟩;have h2:=h.2;rw[show Nat.ble 4 ([a,b,c,d,e,f].count true)=true from Nat.ble_eq_true_of_le h4,Bool.not_true,Bool.false_or,bt]at h2;exact⟨Yt h2.1,Yt h2.2⟩
theorem acd {q:List Nat} (h:q∈kv):(jn q).length=24∧∀x∈jn q,x<256∧(x=0∨uQ x=true):=by
 have h1:=bk.1 aoo q h;rw[bt,bk]at h1;refine⟨p_ h1.1,fun x hx=> ?_⟩;have h2:x∈xq:=by simpa using h1.2 x hx
 exact⟨IZ (bk.1 YQ x h2),aCG (bk.1 avT x h2)⟩
theorem akK {q:List Nat} (h:q∈kv):(gl q).length=16∧∀x∈gl q,x<256:=by
 have h1:=acd h;exact⟨by unfold gl;rw[dX];omega,fun x hx=> (h1.2 x (hU hx)).1⟩
theorem ZG:iE.length=24∧∀x∈iE,x<256:=by
 refine⟨by kernel_rfl,fun x hx=> ?_⟩;have h2:x∈xq:=by simpa using bk.1 azt x hx
 exact IZ (bk.1 YQ x h2)
theorem WD {c c':Nat→Nat} {d d':Nat→List Nat} {z:List Nat}:∀n,(∀k,k<n→c k=c' k∧d k=d' k)→gf c d z n=gf c' d' z n
 |0,_=>rfl
 |n+1,h=>by
  unfold gf;rw[WD n fun k hk=>h k om,(h n om).1,(h n om).2]
theorem ati {q:List Nat} {ds:List (List Nat)} {m j:Nat} (hj:j<4):ix (jn q) ds m j=ix (gl q) ds m j:=
 WD 4 fun k hk=> ⟨by
  show(jn q).getD (j*4+k) 0=((jn q).take 16).getD (j*4+k) 0;rw[rX,rX,List.getElem?_take_of_lt om],rfl⟩
theorem mT {a b:List Nat} (h:a.length=b.length) (hb:B8 b):dW 0 a b=a:=by
 refine SX (by rw[Aq h,h]) fun i h1 h2=> ?_
 rw[AK h1 h2 om,T8 (hb _ (b9 _)),Nat.xor_zero]
theorem ER {d:List Nat} {m:Nat} (h:d.length=m) (hd:B8 d):dW 1 (List.replicate m 0) d=d:=by
 have hl:(List.replicate m 0).length=d.length:=by rw[pZ,h]
 refine SX (Aq hl) fun i h1 h2=> ?_
 rw[AK h1 om h2,List.getElem_replicate,aBc (hd _ (b9 _)),Nat.zero_xor]
theorem anV {xs:List (List Nat)} (h4:xs.length=4) {m:Nat} (h:lvl xs m) {j:Nat} (hj:j<4):ix iE xs m j=xs[j]:=by
 match xs,h4 with
 | [a,b,c,d],_=>
  have ha:=h a (by simp);have hb:=h b (by simp);have hc:=h c (by simp);have hd:=h d (by simp);have hz:(List.replicate m 0).length=m:=pZ
  match j,hj with
  |0,_=>
   show dW 0 (dW 0 (dW 0 (dW 1 (List.replicate m 0) a) b) c) d=a;rw[ER ha.2 ha.1,mT om hb.1,mT om hc.1,mT om hd.1]
  |1,_=>
   show dW 0 (dW 0 (dW 1 (dW 0 (List.replicate m 0) a) b) c) d=b;rw[mT om ha.1,ER hb.2 hb.1,mT om hc.1,mT om hd.1]
  |2,_=>
   show dW 0 (dW 1 (dW 0 (dW 0 (List.replicate m 0) a) b) c) d=c;rw[mT om ha.1,mT om hb.1,ER hc.2 hc.1,mT om hd.1]
  |3,_=>
   show dW 1 (dW 0 (dW 0 (dW 0 (List.replicate m 0) a) b) c) d=d;rw[mT om ha.1,mT om hb.1,mT om hc.1,ER hd.2 hd.1]
section
variable {ρ:List L} {Q:Lf×List L→Prop} {k:ad}
theorem adG {β:Type} {g:β→L} {l:List β} {xs:List At} {i:At} {j:Nat} (hl:xs.map (At.ev ρ)=l.map g) (hi:(i.ev ρ).af=j) (hj:j<l.length) (hk:k.wp (ρ++ [g l[j]]) Q):(ad.op (.iG xs i) k).wp ρ Q:=by
 have h1:(xs.map (At.ev ρ))[j]? =some (g l[j]):=by rw[hl,bO,bX hj];rfl
 rw[bO,aW]at h1;obtain⟨x,h2,h3⟩:=h1;exact Gy (x:=x) (by rw[hi,gd];exact h2) (by rw[h3];exact hk)
end
def pb (us:List Bool) (ps:List (List Nat)) (m:Nat):Prop:=∀k (h:k<ps.length),us.getD k false=true→B8 ps[k]∧ps[k].length=m
theorem Gv {us:List Bool} {ps:List (List Nat)} (hp:ps.length=6) {m:Nat} (h:pb us ps m):lvl (dS ps (qL us 6)) m:=fun d hd=>by
 obtain⟨k,hk,rfl⟩:=dy.1 hd;have h1:=ael (hU hk);rw[dO (show k<ps.length by omega)];exact h k om h1.2
theorem acT (l:List Nat):bA 1 (l.map kR)=true:=by
 unfold bA;rw[bk];intro x hx;obtain⟨y,_,rfl⟩:=dy.1 hx;rfl
def gR (ps:List (List Nat)) (k:Nat):List PV:=fR (ps.getD k [])
theorem LU (ps:List (List Nat)) (q:List Nat):q.map (gR ps)=(dS ps q).map fR:=by unfold dS;rw[iP];rfl
theorem Tw (ps:List (List Nat)) (l:List Nat):bA 1 (l.map (gR ps))=true:=by rw[LU];exact AQ _
theorem ZS (ps:List (List Nat)) (q:List Nat) {i:Nat} (h:i<ps.length):q.map (gR ps)++ [[.sl (ps[i].map b1)]]=(q++ [i]).map (gR ps):=by
 rw[ej,List.map_singleton,gR,dO h];rfl
theorem Fm {us:List Bool} (h6:us.length=6) (h4:4≤us.count true):(qL us 6).length=4:=by
 have:=(LM h6).1;unfold qL;rw[dX];omega
theorem aze {a b c d e f:Bool} (h4:4≤ [a,b,c,d,e,f].count true) {ps:List (List Nat)} (hp:ps.length=6) {m:Nat} (hm:m≤4294967296) (h:pb [a,b,c,d,e,f] ps m):JW [.r (ps.map fR),.b a,.b b,.b c,.b d,.b e,.b f]=some [.r ((fY (jn (qL [a,b,c,d,e,f] 6)) (dS ps (qL [a,b,c,d,e,f] 6)) m 6).map fR)]:=by
 have hq:=((LM (us:=[a,b,c,d,e,f]) rfl).2 h4).2;have hl:=Fm (us:=[a,b,c,d,e,f]) rfl h4;have hd:=Gv hp h;have hgd:∀i (h:i<6),[a,b,c,d,e,f][i]=[a,b,c,d,e,f].getD i false:=fun i h=> (dO h).symm
 obtain⟨us,cS⟩:∃us,[a,b,c,d,e,f]=us:=⟨_,rfl⟩
 have h6:us.length=6:=by rw[←cS];rfl
 refine a_ ?_;unfold aeH;refine aH (fun xs=>xs=[.r ((qL us 6).map kR),.r ((qL us 6).map (gR ps))]) ?_ ?_
 · refine wp_loop (I:=fun x=>∃i:Nat,x=[.i i,.r ((qL us i).map kR),.r ((qL us i).map (gR ps))]∧i≤6) (mu:=fun x=>match x with|[.i i,_,_]=>6-i.toNat|_=>0) ⟨0,rfl,om⟩ ?_;rintro x ⟨i,rfl,e1⟩;have tU:=amO us i;have hsu:=ani us i;refine uR ?_;refine aP rfl (fun hc=> ?_) (fun hc=> ?_);rotate_left
   · obtain rfl:i=6:=om;exact ae rfl
   have hi:i<us.length:=om;refine aH (fun xs=>xs=[.r ((qL us (i+1)).map kR),.r ((qL us (i+1)).map (gR ps))]) ?_ ?_
   · refine B3 ⟨by show(0:Int)≤(i:Int);omega,by show(i:Int)<6;omega⟩ (nW ?_);refine adG (g:=L.b) (l:=us) (j:=i) (by rw[←cS];rfl) rfl hi (nW ?_);refine aH (cV (us.getD i false=true∧(qL us i).length<4)) ?_ ?_
     · refine bg (fun hx=> ?_) (fun hx=> ?_)
       · have hx:us[i]=true:=hx;refine uR ?_;refine ae (fG ?_);rw[dO hi,ax];exact⟨fun h=> ⟨hx,om⟩,fun h=>by omega⟩
       · have hx:us[i]=false:=hx;exact ae (fl (by rw[dO hi,hx];simp))
     rintro _ ⟨t,rfl,ht⟩;refine nW ?_;refine bg (fun hx=> ?_) (fun hx=> ?_)
     · rw[au (ht.1 hx)]at hsu;refine uR ?_;refine ee (r:=(qL us (i+1)).map kR) (acT _) rfl oO oO dc (by rw[hsu,ej];rfl) (nW ?_);refine bz (f:=fR) (j:=i) rfl rfl (show i<ps.length by omega) rfl (uR ?_);refine ee (r:=(qL us (i+1)).map (gR ps)) (Tw _ _) rfl oO oO dc (by rw[hsu];exact ZS _ _ (show i<ps.length by omega)) (nW ?_);exact ae rfl
     · rw[aE (fun h=>by have hx:t=false:=hx;rw[ht.2 h]at hx;cases hx)]at hsu;refine ae ?_;rw[hsu];rfl
   rintro _ rfl;refine nW ?_;refine bP (i:=i) rfl om (nW ?_);refine ae ⟨⟨i+1,rfl,om⟩,?_⟩;show 6- ((i+1:Nat):Int).toNat<6-i;omega
 rintro _ rfl;rw[LU];rw[cS]at hq hl hd⊢;have hal:=acd hq;refine nW ?_;refine ay aqw rfl rfl (nW ?_);refine nq (f:=b1) (m:=partOf (qL us 6)) (fun _=>rfl) (auc hq) rfl rfl (nW ?_);refine nq (f:=b1) (m:=gl (qL us 6)) (fun _=>rfl) (akq hq) rfl rfl (nW ?_);refine nq (f:=b1) (m:=jn (qL us 6)) (fun _=>rfl) (ayY hq) rfl rfl (nW ?_);refine ay (aEH hal.1 hal.2 (ds:=dS ps (qL us 6)) (by unfold dS;rw[ax];exact hl) hm hd) rfl rfl (nW ?_);exact ae rfl
theorem aDZ {us:List Bool} (h6:us.length=6) (h4:4≤us.count true) {ps:List (List Nat)} (hp:ps.length=6) {m:Nat} (hm:m≤4294967296) (h:pb us ps m):KM [.r (ps.map fR),.r (us.map hR)]=some [.i 0,.r ((fY (jn (qL us 6)) (dS ps (qL us 6)) m 6).map fR)]:=by
 match us,h6 with
 | [a,b,c,d,e,f],h6=>
  have hres:=aze h4 hp hm h;obtain⟨us,cS⟩:∃us,[a,b,c,d,e,f]=us:=⟨_,rfl⟩
  obtain⟨R,C6⟩:∃R,(fY (jn (qL [a,b,c,d,e,f] 6)) (dS ps (qL [a,b,c,d,e,f] 6)) m 6).map fR=R:=⟨_,rfl⟩
  rw[C6]at hres⊢;have hl6:us.length=6:=by rw[←cS];exact h6
  refine a_ ?_;unfold Ud;refine aH (fun xs=>xs=[.b false]) ?_ ?_
  · refine uR ?_;refine cJ rfl (by rw[ax,hp];decide) (uR ?_);refine ae ?_;exact dF (fun h=>h rfl)
  rintro _ rfl;refine nW ?_;refine cW rfl ?_;refine AH (r:=[hR a,hR b,hR c,hR d,hR e,hR f]) ⟨show(0:Int)≤0 by decide,show(0:Int)≤6 by decide,show 6≤6 by decide,rfl⟩ rfl (nW ?_);refine mm (r:=hR a) rfl rfl rfl (nW ?_);refine mm (r:=hR b) rfl rfl rfl (nW ?_);refine mm (r:=hR c) rfl rfl rfl (nW ?_);refine mm (r:=hR d) rfl rfl rfl (nW ?_);refine mm (r:=hR e) rfl rfl rfl (nW ?_);refine mm (r:=hR f) rfl rfl rfl (uR ?_);refine oe (r:=[.sc (.bool a),.sc (.bool b),.sc (.bool c),.sc (.bool d),.sc (.bool e),.sc (.bool f)]) (show(0:Int)≤0 by decide) rfl rfl (uR ?_);refine aH (fun xs=>xs=[.i (us.count true:Nat)]) ?_ ?_
  · refine wp_loop (I:=fun x=>∃(i:Nat) (z:Int),x=[.i z,.i ((us.take i).count true:Nat),.i i]∧i≤6∧(0≤z→∃j:Nat,z=j∧j<6∧us.getD j false=true)) (mu:=fun x=>match x with|[_,_,.i i]=>6-i.toNat|_=>0) ⟨0,-1,rfl,om,fun h=>by omega⟩ ?_;rintro x ⟨i,z,rfl,e1,e2⟩;have hct:(us.take i).count true≤i:=S4 us i;refine uR ?_;refine aP rfl (fun hc=> ?_) (fun hc=> ?_);rotate_left
    · have hc:¬(i:Int)<6:=hc;obtain rfl:i=6:=om;refine ae ?_;show[L.i (((us.take 6).count true:Nat):Int)]=_;rw[ir om]
    have hc:(i:Int)<6:=hc;have hi:i<us.length:=om;have eZ:us.take (i+1)=us.take i++ [us[i]]:=iQ hi;refine aH (fun xs=>∃z:Int,xs=[.i z,.i ((us.take (i+1)).count true:Nat)]∧(0≤z→∃j:Nat,z=j∧j<6∧us.getD j false=true)) ?_ ?_
    · refine B3 ⟨by show(0:Int)≤(i:Int);omega,by show(i:Int)<6;omega⟩ (nW ?_);refine adG (g:=L.b) (l:=us) (j:=i) (by rw[←cS];rfl) rfl hi (uR ?_);refine bg (fun hx=> ?_) (fun hx=> ?_)
      · have hx:(!us[i])=true:=hx;refine ae ⟨z,?_,e2⟩;show[L.i z,L.i _]=_;rw[eZ,SY];rw[show us[i]=false by simpa using hx];rfl
      · have hx:us[i]=true:=by have hx:(!us[i])=false:=hx;simpa using hx
        have fu:us.getD i false=true:=by rw[dO hi];exact hx
        refine aH (fun xs=>∃j:Nat,xs=[.i j]∧j<6∧us.getD j false=true) ?_ ?_
        · refine uR ?_;refine aP rfl (fun hy=> ?_) (fun hy=> ?_)
          · exact ae ⟨i,rfl,om,fu⟩
          · obtain⟨j,rfl,h1,h2⟩:=e2 om;exact ae ⟨j,rfl,h1,h2⟩
        rintro _ ⟨j,rfl,hj,nO⟩;refine nW ?_;rw[cS]at h;refine bz (f:=fR) (j:=i) rfl rfl (show i<ps.length by omega) rfl (uR ?_);refine bz (f:=fR) (j:=j) rfl rfl (show j<ps.length by omega) rfl (uR ?_);refine cJ rfl (by rw[ax,ax,(h i om fu).2,(h j om nO).2];exact fun h=>h rfl) ?_;refine bP (i:=(us.take i).count true) rfl om (nW ?_);refine ae ⟨j,?_,fun _=> ⟨j,rfl,hj,nO⟩⟩;show[L.i (j:Int),L.i _]=_;rw[eZ,SY,hx];rfl
    rintro _ ⟨z',rfl,hz⟩;refine nW ?_;refine bP (i:=i) rfl om (nW ?_);refine ae ⟨⟨i+1,z',rfl,om,hz⟩,?_⟩;show 6- ((i+1:Nat):Int).toNat<6-i;omega
  rintro _ rfl;refine uR ?_;refine cJ rfl (by rw[cS]at h4;omega) ?_;refine ay hres rfl rfl (nW ?_);exact ae rfl
theorem axs {us:List Bool} (h6:us.length=6) {ps:List (List Nat)} (hp:ps.length=6) {m:Nat} (hm:m≤4294967296) (h:pb us ps m):
  (4≤us.count true→Bw [.r (ps.map fR),.r (us.map hR)]=some [.i 0,.r ((fY iE (fY (gl (qL us 6)) (dS ps (qL us 6)) m 4) m 6).map fR)])∧(¬4≤us.count true→Bw [.r (ps.map fR),.r (us.map hR)]=some [.i 11,.r []]):=by
 have zn:=LM h6;obtain⟨o,ho⟩:∃o:List L,o=if 4≤us.count true then[.i 0,.r ((fY iE (fY (gl (qL us 6)) (dS ps (qL us 6)) m 4) m 6).map fR)]else[.i 11,.r []]:=⟨_,rfl⟩
 have key : Bw [.r (ps.map fR),.r (us.map hR)]=some o:=by
  refine a_ ?_;unfold Us;refine aH (fun xs=>xs=[.b false]) ?_ ?_
  · refine uR ?_;refine cJ rfl (by rw[ax,hp];decide) (uR ?_);refine ae ?_;exact dF (by rw[ax,h6];decide)
  rintro _ rfl;refine nW ?_;refine cW rfl ?_;refine aH (fun xs=>xs=[.r ((eJ us 6).map kR),.r ((eJ us 6).map (gR ps))]) ?_ ?_
  · refine wp_loop (I:=fun x=>∃i:Nat,x=[.i i,.r ((eJ us i).map kR),.r ((eJ us i).map (gR ps))]∧i≤6) (mu:=fun x=>match x with|[.i i,_,_]=>6-i.toNat|_=>0) ⟨0,rfl,om⟩ ?_;rintro x ⟨i,rfl,e1⟩;have tU:=agj us i;have hsu:=Pp us i;refine uR ?_;refine aP rfl (fun hc=> ?_) (fun hc=> ?_);rotate_left
    · have hc:¬(i:Int)<6:=hc;obtain rfl:i=6:=om;exact ae rfl
    have hc:(i:Int)<6:=hc;have hi:i<us.length:=om;refine aH (fun xs=>xs=[.r ((eJ us (i+1)).map kR),.r ((eJ us (i+1)).map (gR ps))]) ?_ ?_
    · refine bz (f:=hR) (j:=i) rfl rfl hi rfl (nW ?_);refine dV (f:=hR) (j:=i) rfl rfl hi rfl rfl (uR ?_);refine bg (fun hx=> ?_) (fun hx=> ?_)
      · have hx:us[i]=false:=by have hx:(!us[i])=true:=hx;simpa using hx
        rw[dO hi,hx,aE dc]at hsu;refine ae ?_;rw[hsu];rfl
      · have hx:us[i]=true:=by have hx:(!us[i])=false:=hx;simpa using hx
        have fu:us.getD i false=true:=by rw[dO hi];exact hx
        rw[au fu]at hsu;refine aH (fun xs=>xs=[.b false]) ?_ ?_
        · refine uR ?_;refine aP rfl (fun hy=> ?_) (fun hy=> ?_)
          · rw[ax]at hy;have h0:0< (eJ us i).length:=om;have tK:=ael (b9 h0);refine bz (f:=fR) (j:=i) rfl rfl (show i<ps.length by omega) rfl (uR ?_);refine bz (f:=gR ps) (j:=0) rfl rfl h0 rfl (nW ?_);refine dV (f:=gR ps) (j:=0) rfl rfl h0 rfl rfl (uR ?_);refine ae ?_;refine dF ?_;rw[ax,ax,(h i om fu).2,dO (show(eJ us i)[0]<ps.length by omega),(h _ om tK.2).2];exact fun h=>h rfl
          · exact ae rfl
        rintro _ rfl;refine nW ?_;refine cW rfl (uR ?_);refine ee (r:=(eJ us (i+1)).map kR) (acT _) rfl oO oO dc (by rw[hsu,ej];rfl) (nW ?_);refine bz (f:=fR) (j:=i) rfl rfl (show i<ps.length by omega) rfl (uR ?_);refine ee (r:=(eJ us (i+1)).map (gR ps)) (Tw _ _) rfl oO oO dc (by rw[hsu];exact ZS _ _ (show i<ps.length by omega)) (nW ?_);exact ae rfl
    rintro _ rfl;refine nW ?_;refine bP (i:=i) rfl om (nW ?_);refine ae ⟨⟨i+1,rfl,om⟩,?_⟩;show 6- ((i+1:Nat):Int).toNat<6-i;omega
  rintro _ rfl;rw[LU];refine uR ?_;refine aP rfl (fun hx=> ?_) (fun hx=> ?_)
  · rw[ax,zn.1]at hx;rw[aE om]at ho;refine ae ?_;exact ho.symm
  rw[ax,zn.1]at hx;have h4:4≤us.count true:=om;rw[au h4]at ho;have nN:=zn.2 h4;have hl:=Fm h6 h4;have hd:=Gv hp h;have hiv:=akK nN.2;refine ay KT rfl rfl (uR ?_);refine pz ⟨show(0:Int)≤0 by decide,show(0:Int)≤4 by decide,by show 4≤((eJ us 6).map kR).length;rw[ax];omega,by
    cases eJ us 6<;>rfl⟩ ?_
  refine nW ?_;refine ay (asK nN.1) rfl rfl (nW ?_);refine nq (f:=b1) (m:=gl (qL us 6)) (fun _=>rfl) (aoK nN.2) rfl rfl (uR ?_);have R4:(dS ps (eJ us 6)).length=us.count true:=by unfold dS;rw[ax];exact zn.1
  have Sk:(dS ps (eJ us 6)).take 4=dS ps (qL us 6):=by unfold dS qL;rw[p8]
  have aii:(dS ps (qL us 6)).length=4:=by unfold dS;rw[ax];exact hl
  refine pz ⟨show(0:Int)≤0 by decide,show(0:Int)≤4 by decide,by show 4≤((dS ps (eJ us 6)).map fR).length;rw[ax];omega,by
    cases dS ps (eJ us 6)<;>rfl⟩ ?_
  refine nW ?_;refine ay (axJ (E:=gl (qL us 6)) om hiv.2 (ds:=dS ps (qL us 6)) (ss:=dS ps (eJ us 6)) aii hm hd om Sk) rfl rfl (nW ?_);have aIG:F105 [.r ((fY (gl (qL us 6)) (dS ps (qL us 6)) m 4).map fR)]=some [.r ((fY iE (fY (gl (qL us 6)) (dS ps (qL us 6)) m 4) m 6).map fR)]:=by
    refine a_ ?_;unfold UN;refine ay KT rfl rfl (nW ?_);refine ay (axh (E:=iE) ZG.1 ZG.2 (vQ _ _ _ _) hm (UQ aii hd)) rfl rfl (nW ?_);exact ae rfl
  refine ay aIG rfl rfl (nW ?_);refine ae ?_;exact ho.symm
 exact⟨fun h=>by rw[key,ho,au h],fun h=>by rw[key,ho,aE h]⟩
end
section
open Go.RowKit Pl AI
attribute [local irreducible] ad.wp
def lg (us:List Bool) (fs:List (List Nat)) (a c:Nat):List (List Nat):=(List.range 6).map fun k=>if us.getD k false=true then ba (fs.getD k []) a c else[]
theorem Fu (us:List Bool) (fs:List (List Nat)) (a c:Nat):(lg us fs a c).length=6:=by simp[lg]
theorem QI {us:List Bool} {fs:List (List Nat)} {a c k:Nat} (h:k< (lg us fs a c).length):(lg us fs a c)[k]=if us.getD k false=true then ba (fs.getD k []) a c else[]:=by simp[lg]
theorem JE {us:List Bool} {fs:List (List Nat)} (hf:fs.length=6) {sz:Nat} (h:pb us fs sz) {a l:Nat} (hc:a+l≤sz):pb us (lg us fs a (a+l)) l:=fun k hk hu=>by
 rw[Fu]at hk;have h1:=h k om hu;rw[QI,au hu,dO (show k<fs.length by omega)];exact⟨h1.1.cut _ _,by rw[FT om];omega⟩
theorem set_nil {F:List (List Nat)} {i:Nat} (h:i<F.length) (hF:F[i]=[]):F.set i []=F:=by
 rw[←hF];exact List.set_getElem_self h
theorem axS {us:List Bool} (h6:us.length=6) (h4:4≤us.count true) {fs:List (List Nat)} (hf:fs.length=6) {sz:Nat} (h:pb us fs sz) (bj:sz≤4294967296) {a l j:Nat} (hc:a+l≤sz) (hj:j<4):
   MP [.r (fs.map fR),.r (us.map hR),.i j,.i a,.i l]=some [.r ((ix (gl (qL us 6)) (dS (lg us fs a (a+l)) (qL us 6)) l j).map b1)]:=by
 have fM:=JE hf h hc;have hlen:=Fu us fs a (a+l);have zo:=fun k h=>QI (us:=us) (fs:=fs) (a:=a) (c:=a+l) (k:=k) h
 obtain⟨ps,C5⟩:∃ps,lg us fs a (a+l)=ps:=⟨_,rfl⟩
 rw[C5]at fM hlen zo⊢;refine a_ ?_;unfold aep;refine pB (r:=(List.replicate 6 ([]:List Nat)).map fR) (by try dsimp only[At.ev,d1,d2,d3,d4,d5,d6,d7,d8,d9,e0,List.map,bp,Kd.pv];exact⟨dc,dc,dc⟩) rfl (nW ?_);refine aH (fun xs=>xs=[.r (ps.map fR)]) ?_ ?_
 · refine uR ?_;refine wp_loop (I:=fun x=>∃i:Nat,x=[.i i,.r ((eT [] ps 6 i).map fR)]∧i≤6) (mu:=fun x=>match x with|[.i i,_]=>6-i.toNat|_=>0) ⟨0,rfl,om⟩ ?_;rintro x ⟨i,rfl,e1⟩;have oP:=DD (d:=([]:List Nat)) hlen e1;refine uR ?_;refine aP rfl (fun hx=> ?_) (fun hx=> ?_);rotate_left
   · rw[ax,hf]at hx;obtain rfl:i=6:=om;refine ae ?_;show[L.r ((eT [] ps 6 6).map fR)]=_;rw[DK hlen]
   rw[ax,hf]at hx;have hi:i<6:=om;have hst:=DB (d:=([]:List Nat)) hlen hi rfl;have hat:(eT [] ps 6 i)[i]'om=[]:=by
     unfold eT;rw[List.getElem_append_right (by rw[dX];omega),List.getElem_replicate]
   have rP:=zo i om;refine aH (fun xs=>xs=[.r ((eT [] ps 6 (i+1)).map fR)]) ?_ ?_
   · refine bz (f:=fR) (j:=i) rfl rfl (show i<fs.length by omega) rfl (uR ?_);refine bz (f:=hR) (j:=i) rfl rfl (show i<us.length by omega) rfl (uR ?_);refine bg (fun hy=> ?_) (fun hy=> ?_)
     · have hy:us[i]'om=true:=hy;have fu:us.getD i false=true:=by rw[dO (show i<us.length by omega)];exact hy
       have h1:=h i om fu;rw[au fu,dO (show i<fs.length by omega)]at rP;refine dt (n:=((a+l:Nat):Int)) oO om om (uR ?_);refine cM (a:=a) (c:=a+l) rfl rfl rfl om om (nW ?_);refine bz (f:=fR) (j:=i) rfl rfl (show i< (eT [] ps 6 i).length by omega) rfl (nW ?_);refine lu (f:=fR) (j:=i) (v:=ps[i]'om) rfl rfl (show i< (eT [] ps 6 i).length by omega) rfl (by rw[rP];rfl) ?_;rw[hst];refine nW ?_;exact ae rfl
     · have hy:us[i]'om=false:=hy;have fu:us.getD i false=false:=by rw[dO (show i<us.length by omega)];exact hy
       rw[fu,aE dc]at rP;refine ae ?_;show[L.r ((eT [] ps 6 i).map fR)]=_;rw[←hst,rP,set_nil (show i< (eT [] ps 6 i).length by omega) hat]
   rintro _ rfl;refine nW ?_;refine bP (i:=i) rfl om (nW ?_);refine ae ⟨⟨i+1,rfl,om⟩,?_⟩;show 6- ((i+1:Nat):Int).toNat<6-i;omega
 rintro _ rfl;refine nW ?_;refine ay (aDZ h6 h4 hlen (show l≤4294967296 by omega) fM) rfl rfl (nW ?_);have pQ:=vQ (jn (qL us 6)) (dS ps (qL us 6)) l 6;refine bz (f:=fR) (j:=j) rfl rfl (show j< (fY (jn (qL us 6)) (dS ps (qL us 6)) l 6).length by omega) rfl (nW ?_);refine dV (f:=fR) (j:=j) rfl rfl (show j< (fY (jn (qL us 6)) (dS ps (qL us 6)) l 6).length by omega) rfl rfl ?_;rw[yg,ati hj];refine nW ?_;exact ae rfl
def tH (us:List Bool) (fs:List (List Nat)) (e s:Int):Option (List Nat):=
 if us.getD (eV s).toNat false=true then some (ba (fs.getD (eV s).toNat []) (dP s).toNat ((dP s).toNat+(dC e s).toNat))
 else if 4≤us.count true then some (ix (gl (qL us 6)) (dS (lg us fs (dP s).toNat ((dP s).toNat+(dC e s).toNat)) (qL us 6)) (dC e s).toNat (eV s).toNat)else none
def i_ (us:List Bool) (fs:List (List Nat)) (off e:Int):Nat→Nat→List Nat→Option (List Nat)
 |0,_,acc=>some acc
 |n+1,k,acc=>match tH us fs e (bQ off e k)with
  |some b=>i_ us fs off e n (k+1) (acc++b)
  |none=>none
theorem OW {us:List Bool} (h6:us.length=6) {fs:List (List Nat)} (hf:fs.length=6) {sz:Nat} (h:pb us fs sz) {e s:Int} (h0:0≤s) (hs:s<e) (bj:∀a l:Nat,(a:Int)=dP s→(l:Int)=dC e s→a+l≤sz) {b:List Nat} (hb:tH us fs e s=some b):B8 b∧(b.length:Int)=dC e s:=by
 have h1:=afz s;have h2:=VZ s h0;have h3:=FZ e s hs;have h4:=bj (dP s).toNat (dC e s).toNat om om;unfold tH at hb;split at hb
 · rename_i hu;cases hb;have h5:=h (eV s).toNat om hu;rw[dO (show(eV s).toNat<fs.length by omega)];exact⟨h5.1.cut _ _,by rw[FT om];omega⟩
 · split at hb
   · rename_i hn h4c;cases hb;have:=OU (E:=gl (qL us 6)) (ds:=dS (lg us fs (dP s).toNat ((dP s).toNat+(dC e s).toNat)) (qL us 6)) (m:=(dC e s).toNat) (by unfold dS;rw[ax];exact Fm h6 h4c) (Gv (Fu _ _ _ _) (JE hf h h4)) (eV s).toNat;exact⟨this.2,by rw[this.1];omega⟩
   · cases hb
structure Ow (us:List Bool) (fs:List (List Nat)) (sz:Nat) (off e:Int) (K:Nat):Prop where
 h6:us.length=6
 hf:fs.length=6
 hu:pb us fs sz
 bj:sz≤1048576
 h0:0≤off
 hle:off≤e
 hK:Full off e K
 bW:∀s:Int,0≤s→s<e→∀a l:Nat,(a:Int)=dP s→(l:Int)=dC e s→a+l≤sz
theorem aca {us:List Bool} {fs:List (List Nat)} {sz:Nat} {off e:Int} {K:Nat} (R:Ow us fs sz off e K):∀n k acc o,n+k=K→B8 acc→(acc.length:Int)=bQ off e k-off→i_ us fs off e n k acc=some o→B8 o∧(o.length:Int)=e-off
 |0,k,acc,o,hk,hb,hl,h=>by
  cases h;obtain rfl:k=K:=om;have:=R.hK.1;exact⟨hb,om⟩
 | n +1,k,acc,o,hk,hb,hl,h=>by
  unfold i_ at h;have hs:=R.hK.2 k om;have hb0:=sv off e R.hle k;have hR:=R.h0
  cases hp:tH us fs e (bQ off e k)with
  |none=>rw[hp]at h;cases h
  |some b=>
   rw[hp]at h;have h1:=OW R.h6 R.hf R.hu (show 0≤bQ off e k by omega) hs (R.bW _ om hs) hp;refine aca R n (k+1) (acc++b) o om (fun x hx=> ?_) ?_ h
   · rcases ei.1 hx with hx|hx
     · exact hb x hx
     · exact h1.1 x hx
   · rw[dL];show _=bQ off e k+dC e (bQ off e k) -off;omega
theorem VH {off e:Int} {K k:Nat} (hk:k<K):(gI off e K)[k]? =some (xy e (bQ off e k)):=by
 unfold gI;rw[bO,pY hk];rfl
theorem Wp {e s:Int} (h0:0≤s) (hs:s<e):∃j a l:Nat,(eV s).toNat=j∧(dP s).toNat=a∧(dC e s).toNat=l∧(a:Int)=dP s∧(l:Int)=dC e s∧j<4∧xy e s=[.sc (.int .i64 (j:Nat)),.sc (.int .i64 (a:Nat)),.sc (.int .i64 (l:Nat))]:=by
 have h1:=afz s;have h2:=VZ s h0;have h3:=FZ e s hs;refine⟨_,_,_,rfl,rfl,rfl,om,om,om,?_⟩;unfold xy;rw[Df h1.1,Df h2.1,Df om]
def XG (o:Option (List Nat)):List L:=match o with
 |some b=> [.b true,.r (b.map b1)]
 |none=> [.b false,.r []]
theorem Lw {x:List Nat} {b:List Nat}:(x.map b1)++(b.map b1)=(x++b).map b1:=by rw[ej]
theorem aku {fs:List (List Nat)} (hf:fs.length=6) (hB:∀f∈fs,B8 f) (hv:List Bool) (sk:List Nat) {n:Int} (hn:0≤n):pb (gV fs hv sk n) fs (iV n).toNat:=fun k hk hu=>by
 rw[dO (by rw[ZW];omega),L7]at hu;unfold B_ at hu;rw[cg,dO hk]at hu;exact⟨hB _ (b9 hk),om⟩
theorem Dw {fs:List (List Nat)} (hf:fs.length=6) (hB:∀f∈fs,B8 f) (hv:List Bool) (sk:List Nat) {n off s:Int} (hn:16≤n) (cZ:n≤524288) (h0:0≤off) (h1:0≤s) (h2:off+s≤n) {K:Nat} (hK:Full off (off+s) K):Ow (gV fs hv sk n) fs (iV n).toNat off (off+s) K:=
 ⟨ZW _ _ _ _,hf,aku hf hB hv sk om,by unfold iV;split<;>omega,h0,om,hK,fun x hx he a l ha hl=>by
  unfold dP at ha;unfold dC at hl;unfold iV;split<;>omega⟩
theorem apS (a g r n:Int) (m4 m5 m6 m7 m8 m9:L) {l:List It} (hl:l.length≤4294967296) (hH:jo a g r n l) {fs:List (List Nat)} (hf:fs.length=6) (hB:∀f∈fs,B8 f) {hv:List Bool} (hh:hv.length=6) {sk:List Nat} (hs:sk.length≤6) {off s:Int} (h0:0≤off) (h1:0≤s) (h2:off+s≤n) {K:Nat} (hK:Full off (off+s) K):QY [.i a,.i g,.i r,.i n,m4,m5,m6,m7,m8,m9,.r (l.map aU),.r (fs.map fR),.r (hv.map hR),.r (sk.map kR),.i off,.i s]=some (XG (i_ (gV fs hv sk n) fs off (off+s) K 0 [])):=by
 have zk:16≤n:=hH.2.1;have C7:n≤524288:=hH.2.2.1;have R:=Dw hf hB hv sk zk C7 h0 h1 h2 hK;have eh:¬mE off s:=by unfold mE;omega
 obtain⟨us,cS⟩:∃us,gV fs hv sk n=us:=⟨_,rfl⟩
 have C8:=arY a g r n m4 m5 m6 m7 m8 m9 (.r (l.map aU)) om om fs hf hv hh sk hs;rw[cS]at R C8⊢;obtain⟨o,ho⟩:∃o,i_ us fs off (off+s) K 0 []=o:=⟨_,rfl⟩
 rw[ho];have hKn:=R.hK.le R.hle;have bj:=R.bj;obtain⟨e,fK⟩:∃e,off+s=e:=⟨_,rfl⟩
 have C9:=azu eh hK;rw[fK]at R ho C9 h2 hKn hK;have R0:=R.hle;refine a_ ?_;unfold aaD;refine aH (fun xs=>xs=[.b false]) ?_ ?_
 · refine ay (afU a g r n m4 m5 m6 m7 m8 m9 l hl fs hf hv hh (b:=true) (by simp[hH])) rfl rfl (uR ?_);refine cW rfl (uR ?_);refine cJ rfl om (uR ?_);refine cJ rfl om (uR ?_);refine cJ rfl om ?_;refine gY (n:=n-off) rfl om om (uR ?_);refine ae ?_;exact dF om
 rintro _ rfl;refine nW ?_;refine cW rfl ?_;refine ay C8 rfl rfl (nW ?_);refine ay C9 rfl rfl (nW ?_);refine aH (fun xs=>∃b:List Nat,xs=[.r (b.map b1)]∧o=some b) ?_ ?_;rotate_left
 · rintro _ ⟨b,rfl,rfl⟩;refine nW ?_;exact ae rfl
 refine HA ?_;show ad.wp _ (_++ [L.i ((gI off e K).length:Nat)]) _;rw[P'];refine nW ?_;refine wp_loop (I:=fun x=>∃(k:Nat) (acc:List Nat),x=[.i k,.r (acc.map b1)]∧k≤K∧i_ us fs off e (K-k) k acc=o∧(acc.length:Int)=bQ off e k-off) (mu:=fun x=>match x with|[.i k,_]=>K-k.toNat|_=>0) ⟨0,[],rfl,om,ho,by show((0:Nat):Int)=off-off;omega⟩ ?_;rintro x ⟨k,acc,rfl,e1,e2,e3⟩;have hpb:=sv off e R0 k;refine uR ?_;refine aP rfl (fun hc=> ?_) (fun hc=> ?_);rotate_left
 · obtain rfl:k=K:=om;rw[II]at e2;exact ae ⟨acc,rfl,e2.symm⟩
 have hk:k<K:=om;have hlt:=hK.2 k hk;have gA:=VH (off:=off) (e:=e) hk;have tZ:=fun b hb=>OW (b:=b) R.h6 R.hf R.hu (show 0≤bQ off e k by omega) hlt (R.bW _ om hlt) hb
 obtain⟨j,p,ln,hj,hp,wG,CE,Sl,Sm,hrow⟩:=Wp (e:=e) (show 0≤bQ off e k by omega) hlt;have hcs:=R.bW _ (show 0≤bQ off e k by omega) hlt p ln CE Sl;rw[hrow]at gA;rw[show K-k=(K- (k+1))+1 by omega,i_]at e2;have jC:tH us fs e (bQ off e k)=if us.getD j false=true then some (ba (fs.getD j []) p (p+ln))else if 4≤us.count true then some (ix (gl (qL us 6)) (dS (lg us fs p (p+ln)) (qL us 6)) ln j)else none:=by subst hj hp wG;rfl
 have dI:bQ off e (k+1)=bQ off e k+ln:=by show bQ off e k+dC e (bQ off e k)=_;omega
 have h64:=R.h6;refine aH (fun xs=>∃b:List Nat,xs=[.r ((acc++b).map b1)]∧tH us fs e (bQ off e k)=some b) ?_ ?_;rotate_left
 · rintro _ ⟨b,rfl,hb⟩;have hbl:=tZ b hb;rw[hb]at e2;refine nW ?_;refine bP (i:=k) rfl om (nW ?_);refine ae ⟨⟨k+1,acc++b,rfl,om,e2,by rw[dL];omega⟩,?_⟩;show K- ((k+1:Nat):Int).toNat<K-k;omega
 refine oe (by show(0:Int)≤(k:Int);omega) gA rfl (nW ?_);refine mm gA rfl rfl (nW ?_);refine mm gA rfl rfl (nW ?_);refine mm gA rfl rfl (nW ?_);refine bz (f:=hR) (j:=j) rfl rfl (show j<us.length by omega) rfl (uR ?_);refine bg (fun hy=> ?_) (fun hy=> ?_)
 · have hy:us[j]'om=true:=hy;have nO:us.getD j false=true:=by rw[dO (show j<us.length by omega)];exact hy
   rw[au nO,dO (show j<fs.length by omega)]at jC;have hfj:=R.hu j om nO;refine bz (f:=fR) (j:=j) rfl rfl (show j<fs.length by omega) rfl (uR ?_);refine dt (n:=((p+ln:Nat):Int)) oO om om (uR ?_);refine cM (a:=p) (c:=p+ln) rfl rfl rfl om om (nW ?_);refine ee (r:=(acc++ba (fs[j]'om) p (p+ln)).map b1) (kZ _) (kZ _) oO (by show((ba (fs[j]'om) p (p+ln)).map b1).length≤_;rw[ax,FT om];omega) dc Lw (nW ?_);exact ae ⟨_,rfl,jC⟩
 · have hy:us[j]'om=false:=hy;have nO:us.getD j false=false:=by rw[dO (show j<us.length by omega)];exact hy
   rw[nO,aE dc]at jC;refine uR ?_;refine aP rfl (fun hz=> ?_) (fun hz=> ?_)
   · have h4:4≤us.count true:=om;rw[au h4]at jC;have hbl:=tZ _ jC;refine ay (axS R.h6 h4 R.hf R.hu om (a:=p) (l:=ln) (j:=j) hcs Sm) rfl rfl (nW ?_);refine ee (r:=(acc++ix (gl (qL us 6)) (dS (lg us fs p (p+ln)) (qL us 6)) ln j).map b1) (kZ _) (kZ _) oO (by try dsimp only[At.ev,d1,d2,d3,d4,d5,d6,d7,d8,d9,e0,List.map,bp,Kd.pv];rw[ax];omega) dc Lw (nW ?_);exact ae ⟨_,rfl,jC⟩
   · rw[aE om]at jC;rw[jC]at e2;refine ae ?_;rw[←e2];rfl
theorem aFA (a g r n:Int) (m4 m5 m6 m7 m8 m9:L) {l:List It} (hl:l.length≤4294967296) (hH:jo a g r n l) {fs:List (List Nat)} (hf:fs.length=6) (hB:∀f∈fs,B8 f) {hv:List Bool} (hh:hv.length=6) {sk:List Nat} (hs:sk.length≤6) {off s:Int} (h0:0≤off) (h1:0≤s) (h2:off+s≤n) {K:Nat} (hK:Full off (off+s) K):Rb [.i a,.i g,.i r,.i n,m4,m5,m6,m7,m8,m9,.r (l.map aU),.r (fs.map fR),.r (hv.map hR),.r (sk.map kR),.i off,.i s]=some (XG (i_ (gV fs hv sk n) fs off (off+s) K 0 [])):=by
 have zk:16≤n:=hH.2.1;have C7:n≤524288:=hH.2.2.1;have R:=Dw hf hB hv sk zk C7 h0 h1 h2 hK;have eh:¬mE off s:=by unfold mE;omega
 obtain⟨us,cS⟩:∃us,gV fs hv sk n=us:=⟨_,rfl⟩
 have C8:=anx a g r n m4 m5 m6 m7 m8 m9 (.r (l.map aU)) om om fs hf hv hh sk hs;rw[cS]at R C8⊢;obtain⟨o,ho⟩:∃o,i_ us fs off (off+s) K 0 []=o:=⟨_,rfl⟩
 rw[ho];have hKn:=R.hK.le R.hle;have bj:=R.bj;obtain⟨e,fK⟩:∃e,off+s=e:=⟨_,rfl⟩
 have C9:=auE eh hK;rw[fK]at R ho C9 h2 hKn hK;have R0:=R.hle;refine a_ ?_;unfold ZP;refine aH (fun xs=>xs=[.b false]) ?_ ?_
 · refine ay (abZ a g r n m4 m5 m6 m7 m8 m9 l hl (b:=true) (by simp[hH])) rfl rfl (uR ?_);refine cW rfl (uR ?_);refine cJ rfl (by rw[ax,hf];decide) (uR ?_);refine cJ rfl (by rw[ax,hh];decide) (uR ?_);refine cJ rfl om (uR ?_);refine cJ rfl om (uR ?_);refine cJ rfl om ?_;refine gY (n:=n-off) rfl om om (uR ?_);refine ae ?_;exact dF om
 rintro _ rfl;refine nW ?_;refine cW rfl ?_;refine ay C8 rfl rfl (nW ?_);refine ay C9 rfl rfl (nW ?_);refine aH (fun xs=>∃b:List Nat,xs=[.r (b.map b1)]∧o=some b) ?_ ?_;rotate_left
 · rintro _ ⟨b,rfl,rfl⟩;refine nW ?_;exact ae rfl
 refine wp_loop (I:=fun x=>∃(k:Nat) (acc:List Nat),x=[.i k,.r (acc.map b1)]∧k≤K∧i_ us fs off e (K-k) k acc=o∧(acc.length:Int)=bQ off e k-off) (mu:=fun x=>match x with|[.i k,_]=>K-k.toNat|_=>0) ⟨0,[],rfl,om,ho,by show((0:Nat):Int)=off-off;omega⟩ ?_;rintro x ⟨k,acc,rfl,e1,e2,e3⟩;have hpb:=sv off e R0 k;refine nW ?_;refine HA ?_;show ad.wp _ (_++ [L.i ((gI off e K).length:Nat)]) _;rw[P'];refine uR ?_;refine aP rfl (fun hc=> ?_) (fun hc=> ?_);rotate_left
 · obtain rfl:k=K:=om;rw[II]at e2;exact ae ⟨acc,rfl,e2.symm⟩
 have hk:k<K:=om;have hlt:=hK.2 k hk;have gA:=VH (off:=off) (e:=e) hk;have tZ:=fun b hb=>OW (b:=b) R.h6 R.hf R.hu (show 0≤bQ off e k by omega) hlt (R.bW _ om hlt) hb
 obtain⟨j,p,ln,hj,hp,wG,CE,Sl,Sm,hrow⟩:=Wp (e:=e) (show 0≤bQ off e k by omega) hlt;have hcs:=R.bW _ (show 0≤bQ off e k by omega) hlt p ln CE Sl;rw[hrow]at gA;rw[show K-k=(K- (k+1))+1 by omega,i_]at e2;have jC:tH us fs e (bQ off e k)=if us.getD j false=true then some (ba (fs.getD j []) p (p+ln))else if 4≤us.count true then some (ix (gl (qL us 6)) (dS (lg us fs p (p+ln)) (qL us 6)) ln j)else none:=by subst hj hp wG;rfl
 have dI:bQ off e (k+1)=bQ off e k+ln:=by show bQ off e k+dC e (bQ off e k)=_;omega
 have h64:=R.h6;have fM:=JE R.hf R.hu hcs;have hpl:=Fu us fs p (p+ln);have zo:=fun i h=>QI (us:=us) (fs:=fs) (a:=p) (c:=p+ln) (k:=i) h
 obtain⟨ps,C5⟩:∃ps,lg us fs p (p+ln)=ps:=⟨_,rfl⟩
 rw[C5]at fM hpl zo jC;refine oe (by show(0:Int)≤(k:Int);omega) gA rfl (nW ?_);refine mm gA rfl rfl (nW ?_);refine mm gA rfl rfl (nW ?_);refine mm gA rfl rfl (nW ?_);refine aH (fun xs=>xs=[.r (ps.map fR)]) ?_ ?_
 · refine wp_loop (I:=fun x=>∃i:Nat,x=[.i i,.r ((ps.take i).map fR)]∧i≤6) (mu:=fun x=>match x with|[.i i,_]=>6-i.toNat|_=>0) ⟨0,rfl,om⟩ ?_;rintro x ⟨i,rfl,f1⟩;refine uR ?_;refine aP rfl (fun hx=> ?_) (fun hx=> ?_);rotate_left
   · have hx:¬(i:Int)<6:=hx;refine ae ?_;show[L.r ((ps.take i).map fR)]=_;rw[ir om]
   have hx:(i:Int)<6:=hx;have hi:i<ps.length:=om;have rP:=zo i om;refine aH (fun xs=>xs=[.r (ps[i].map b1)]) ?_ ?_
   · refine bz (f:=hR) (j:=i) rfl rfl (show i<us.length by omega) rfl (nW ?_);refine dV (f:=hR) (j:=i) rfl rfl (show i<us.length by omega) rfl rfl (nW ?_);refine bg (fun hy=> ?_) (fun hy=> ?_)
     · have hy:us[i]'om=true:=hy;have fu:us.getD i false=true:=by rw[dO (show i<us.length by omega)];exact hy
       have iM:=R.hu i om fu;rw[au fu,dO (show i<fs.length by omega)]at rP;refine bz (f:=fR) (j:=i) rfl rfl (show i<fs.length by omega) rfl (uR ?_);refine dt (n:=((p+ln:Nat):Int)) oO om om (uR ?_);refine cM (a:=p) (c:=p+ln) rfl rfl rfl om om (nW ?_);refine ae ?_;show[L.r _]=[L.r _]
       rw[rP];rfl
     · have hy:us[i]'om=false:=hy;have fu:us.getD i false=false:=by rw[dO (show i<us.length by omega)];exact hy
       rw[fu,aE dc]at rP;refine ae ?_;show[L.r []]=[L.r _]
       rw[rP];rfl
   rintro _ rfl;refine uR ?_;refine ee (r:=(ps.take (i+1)).map fR) (AQ _) rfl oO oO dc (by rw[iQ hi,ej];rfl) (nW ?_);refine bP (i:=i) rfl om (nW ?_);refine ae ⟨⟨i+1,rfl,om⟩,?_⟩;show 6- ((i+1:Nat):Int).toNat<6-i;omega
 rintro _ rfl;refine nW ?_;have jB:=axs R.h6 hpl (show ln≤4294967296 by omega) fM;refine aH (fun xs=>∃(rows:List (List Nat)) (b:List Nat),xs=[.r (rows.map fR)]∧j<rows.length∧(∀h:j<rows.length,rows[j]=b)∧tH us fs e (bQ off e k)=some b) ?_ ?_;rotate_left
 · rintro _ ⟨rows,b,rfl,Sn,hrj,hb⟩;have hbl:=tZ b hb;rw[hb]at e2;refine nW ?_;refine bz (f:=fR) (j:=j) rfl rfl Sn rfl (nW ?_);refine dV (f:=fR) (j:=j) rfl rfl Sn rfl rfl ?_;rw[hrj Sn];refine nW ?_;refine ee (r:=(acc++b).map b1) (kZ _) (kZ _) oO (by try dsimp only[At.ev,d1,d2,d3,d4,d5,d6,d7,d8,d9,e0,List.map,bp,Kd.pv];rw[ax];omega) dc Lw (nW ?_);refine bP (i:=k) rfl om (nW ?_);refine ae ⟨⟨k+1,acc++b,rfl,om,e2,by rw[dL];omega⟩,?_⟩;show K- ((k+1:Nat):Int).toNat<K-k;omega
 refine bz (f:=hR) (j:=j) rfl rfl (show j<us.length by omega) rfl (nW ?_);refine dV (f:=hR) (j:=j) rfl rfl (show j<us.length by omega) rfl rfl (uR ?_);refine bg (fun hy=> ?_) (fun hy=> ?_)
 · have hy:us[j]'om=false:=by have hy:(!(us[j]'om))=true:=hy;simpa using hy
   have nO:us.getD j false=false:=by rw[dO (show j<us.length by omega)];exact hy
   rw[nO,aE dc]at jC;by_cases h4:4≤us.count true
   · rw[au h4]at jC;refine ay (jB.1 h4) rfl rfl (uR ?_);refine cJ rfl (fun h=>h rfl) ?_;have Sk:(dS ps (qL us 6)).length=4:=by unfold dS;rw[ax];exact Fm R.h6 h4
     refine ae ⟨_,_,rfl,by rw[vQ];omega,fun h=> ?_,jC⟩;rw[yg,anV (vQ _ _ _ _) (UQ Sk (Gv hpl fM)) Sm,yg]
   · rw[aE h4]at jC;rw[jC]at e2;refine ay (jB.2 h4) rfl rfl (uR ?_);refine iy rfl dc ?_;refine ae ?_;rw[←e2];rfl
 · have hy:us[j]'om=true:=by have hy:(!(us[j]'om))=false:=hy;simpa using hy
   have nO:us.getD j false=true:=by rw[dO (show j<us.length by omega)];exact hy
   rw[au nO]at jC;have hpj:=zo j om;rw[au nO]at hpj;exact ae ⟨ps,_,rfl,om,fun h=>by exact hpj,jC⟩
end
section
open Go.RowKit Pl AI
open Classical
attribute [local irreducible] ad.wp
def vp:List L:=[.b false,.i 0,.i 0,.b false,.r []]
noncomputable def wY (x:It) (len:Int) (b:List L):List L:=match b with
 |[.i n,.i e,.i key,.i cookie,.b del,.r data]=>if e≠0∨n≠len∨del=true∨key≠x.key∨cookie≠x.cookie∨(data.length:Int)≠x.size then vp else[.b true,.i key,.i cookie,.b del,.r data]
 |_=>vp
noncomputable def GO (x:It) (o:Option (List Nat)):List L:=match o with
 |some b=>wY x (b6 x.size) (nB b)
 |none=>vp
theorem Kr (b:List Nat):∃(n e key cookie:Int) (del:Bool) (data:List Nat),nB b=[.i n,.i e,.i key,.i cookie,.b del,.r (data.map b1)]:=by
 have he:∀e:Int,∃(n e' key cookie:Int) (del:Bool) (data:List Nat),xu e=[.i n,.i e',.i key,.i cookie,.b del,.r (data.map b1)]:=fun e=> ⟨0,e,0,0,false,[],rfl⟩
 unfold nB;split
 · exact he _
 · split
   · exact he _
   · split
     · exact he _
     · split
       · exact he _
       · split
         · exact he _
         · exact⟨_,_,_,_,_,_,rfl⟩
theorem TM {ρ:List L} {Q:Lf×List L→Prop} {k:ad} {t:Nat} {F:List L→Option (List L)} {args:List At} {n:Nat} {l:List L} {m:List Nat} (h:F (args.map (At.ev ρ))=some l) (hl:l.length=n) (hj:l[5]? =some (.r (m.map b1))) (hk:k.wp (ρ++l) Q):(ad.op (.call t F args n [5]) k).wp ρ Q:=nq (f:=b1) (fun _=>rfl) h hl hj hk
theorem VF {us:List Bool} {fs:List (List Nat)} {sz:Nat} {off e:Int} {K:Nat} (R:Ow us fs sz off e K) {b:List Nat} (h:i_ us fs off e K 0 []=some b):B8 b∧(b.length:Int)=e-off:=
 aca R K 0 [] b om (fun x hx=>by cases hx) (by show((0:Nat):Int)=off-off;omega) h
theorem Zs {a g r n:Int} {l:List It} (hH:jo a g r n l) {x:It} (hx:x∈l):16≤x.off∧0≤x.size∧x.size≤4096∧24≤b6 x.size∧b6 x.size≤4120∧x.off+b6 x.size≤n:=by
 have h1:=hH.2.2.2.1.2 x hx;have h2:=DL h1;have h3:=ayP h1;have h4:=Cj x.size;exact⟨h2.1,h2.2.2.1,h2.2.2.2,h3,h4.2,hH.2.2.2.2 x hx⟩
theorem avU (a g r n:Int) (m4 m5 m6 m7 m8 m9:L) {l:List It} (hl:l.length≤4294967296) (hH:jo a g r n l) {fs:List (List Nat)} (hf:fs.length=6) (hB:∀f∈fs,B8 f) {hv:List Bool} (hh:hv.length=6) {sk:List Nat} (hs:sk.length≤6) {x:It} (hx:x∈l) {K:Nat} (hK:Full x.off (x.off+b6 x.size) K):lr [.i a,.i g,.i r,.i n,m4,m5,m6,m7,m8,m9,.r (l.map aU),.r (fs.map fR),.r (hv.map hR),.r (sk.map kR),.i x.key,.i x.cookie,.i x.off,.i x.size]=some (GO x (i_ (gV fs hv sk n) fs x.off (x.off+b6 x.size) K 0 [])):=by
 have hn:=Zs hH hx;have C7:n≤524288:=hH.2.2.1;have hby:=apS a g r n m4 m5 m6 m7 m8 m9 hl hH hf hB hh hs (off:=x.off) (s:=b6 x.size) om om hn.2.2.2.2.2 hK;have R:=Dw hf hB hv sk hH.2.1 hH.2.2.1 (off:=x.off) (s:=b6 x.size) om om hn.2.2.2.2.2 hK;obtain⟨o,ho⟩:∃o,i_ (gV fs hv sk n) fs x.off (x.off+b6 x.size) K 0 []=o:=⟨_,rfl⟩
 rw[ho]at hby⊢;have hlen:∀b,o=some b→B8 b∧(b.length:Int)=b6 x.size:=fun b hb=>by
  have h:=VF R (ho.trans hb);exact⟨h.1,om⟩
 refine a_ ?_;unfold Wt;refine ay (Rh x.size) rfl rfl (nW ?_)
 cases o with
 |none=>
  refine ay (l:=[.b false,.r []]) hby rfl rfl (nW ?_);refine aH (fun xs=>xs=[.b true]) ?_ ?_
  · refine uR ?_;refine iz rfl ?_;exact ae rfl
  rintro _ rfl;refine nW ?_;refine iz rfl ?_;exact ae rfl
 |some b=>
  have hbl:=hlen b rfl;refine ay (l:=[.b true,.r (b.map b1)]) hby rfl rfl (nW ?_);refine aH (fun xs=>xs=[.b false]) ?_ ?_
  · refine uR ?_;refine cW rfl (uR ?_);refine ae ?_;exact dF om
  rintro _ rfl;refine nW ?_;refine cW rfl ?_;have dJ:=axr b hbl.1 om;obtain⟨dn,de,dk,dc,dd,data,hd⟩:=Kr b;show ad.wp _ _ (b8 fun y=>y=wY x (b6 x.size) (nB b));rw[hd]at dJ⊢;obtain⟨y,hy⟩:∃y,wY x (b6 x.size) [.i dn,.i de,.i dk,.i dc,.b dd,.r (data.map b1)]=y:=⟨_,rfl⟩
  rw[hy];have hy:(if de≠0∨dn≠b6 x.size∨dd=true∨dk≠x.key∨dc≠x.cookie∨((data.map b1).length:Int)≠x.size then vp else[.b true,.i dk,.i dc,.b dd,.r (data.map b1)])=y:=hy;refine TM (m:=data) dJ rfl rfl (nW ?_);refine aH (cV (de≠0∨dn≠b6 x.size∨dd=true∨dk≠x.key∨dc≠x.cookie∨((data.map b1).length:Int)≠x.size)) ?_ ?_
  · refine uR ?_;refine aP rfl (fun c1=> ?_) (fun c1=> ?_)
    · exact ae (cz (.inl c1))
    refine uR ?_;refine aP rfl (fun c2=> ?_) (fun c2=> ?_)
    · exact ae (cz (.inr (.inl c2)))
    refine bg (fun c3=> ?_) (fun c3=> ?_)
    · exact ae (cz (.inr (.inr (.inl c3))))
    have c3:dd=false:=c3;refine uR ?_;refine aP rfl (fun c4=> ?_) (fun c4=> ?_)
    · exact ae (cz (.inr (.inr (.inr (.inl c4)))))
    refine uR ?_;refine aP rfl (fun c5=> ?_) (fun c5=> ?_)
    · exact ae (cz (.inr (.inr (.inr (.inr (.inl c5))))))
    refine uR ?_;refine ae (fG ?_);constructor
    · exact fun h=> .inr (.inr (.inr (.inr (.inr h))))
    · rintro(h|h|h|h|h|h)
      · exact absurd h c1
      · exact absurd h c2
      · rw[c3]at h;cases h
      · exact absurd h c4
      · exact absurd h c5
      · exact h
  rintro _ ⟨t,rfl,ht⟩;refine nW ?_;refine bg (fun hc=> ?_) (fun hc=> ?_)
  · rw[au (ht.1 hc)]at hy;refine ae ?_;exact hy
  · rw[aE (fun h=>by have hc:t=false:=hc;rw[ht.2 h]at hc;cases hc)]at hy;refine ae ?_;exact hy
theorem aax {k:Nat} (h:k<22):(nY.getD k []).length≤6:=by
 have:∀k,k<22→(nY.getD k []).length≤6:=by decide
 exact this k h
theorem atl (a g r n:Int) (m4 m5 m6 m7 m8 m9:L) {l:List It} (hl:l.length≤4294967296) (hH:jo a g r n l) {fs:List (List Nat)} (hf:fs.length=6) (hB:∀f∈fs,B8 f) {hv:List Bool} (hh:hv.length=6) {k:Nat} (hk:k<22) {x:It} (hx:x∈l) {K:Nat} (hK:Full x.off (x.off+b6 x.size) K):Pt [.i a,.i g,.i r,.i n,m4,m5,m6,m7,m8,m9,.r (l.map aU),.r (fs.map fR),.r (hv.map hR),.i k,.i x.key,.i x.cookie,.i x.off,.i x.size]=some (GO x (i_ (gV fs hv (nY.getD k []) n) fs x.off (x.off+b6 x.size) K 0 [])):=by
 obtain⟨sk,hsk⟩:∃sk,nY.getD k []=sk:=⟨_,rfl⟩
 have hs:sk.length≤6:=by rw[←hsk];exact aax hk
 have hex:=avB hk;rw[O0,hsk]at hex;rw[hsk];have hn:=Zs hH hx;have C7:n≤524288:=hH.2.2.1;have hby:=aFA a g r n m4 m5 m6 m7 m8 m9 hl hH hf hB hh hs (off:=x.off) (s:=b6 x.size) om om hn.2.2.2.2.2 hK;have R:=Dw hf hB hv sk hH.2.1 hH.2.2.1 (off:=x.off) (s:=b6 x.size) om om hn.2.2.2.2.2 hK;obtain⟨o,ho⟩:∃o,i_ (gV fs hv sk n) fs x.off (x.off+b6 x.size) K 0 []=o:=⟨_,rfl⟩
 rw[ho]at hby⊢;have hlen:∀b,o=some b→B8 b∧(b.length:Int)=b6 x.size:=fun b hb=>by
   have h:=VF R (ho.trans hb);exact⟨h.1,om⟩
 refine a_ ?_;unfold aak;refine aH (fun xs=>xs=[.b false]) ?_ ?_
 · refine uR ?_;refine cJ rfl om (uR ?_);refine cJ rfl om (uR ?_);refine cJ rfl om (uR ?_);refine ae ?_;exact dF om
 rintro _ rfl;refine nW ?_;refine cW rfl ?_;refine ay hex rfl rfl (nW ?_);refine ay (E4 x.size) rfl rfl (nW ?_)
 cases o with
 | none=>
   refine ay (l:=[.b false,.r []]) hby rfl rfl (uR ?_);refine iz rfl ?_;exact ae rfl
 | some b=>
   have hbl:=hlen b rfl;refine ay (l:=[.b true,.r (b.map b1)]) hby rfl rfl (uR ?_);refine cW rfl ?_;have dJ:=aEO b hbl.1 om;obtain⟨dn,de,dk,dc,dd,data,hd⟩:=Kr b;show ad.wp _ _ (b8 fun y=>y=wY x (b6 x.size) (nB b));rw[hd]at dJ⊢;obtain⟨y,hy⟩:∃y,wY x (b6 x.size) [.i dn,.i de,.i dk,.i dc,.b dd,.r (data.map b1)]=y:=⟨_,rfl⟩
   rw[hy];have hy:(if de≠0∨dn≠b6 x.size∨dd=true∨dk≠x.key∨dc≠x.cookie∨((data.map b1).length:Int)≠x.size then vp else[.b true,.i dk,.i dc,.b dd,.r (data.map b1)])=y:=hy;refine TM (m:=data) dJ rfl rfl (nW ?_);refine aH (cV (de≠0∨dn≠b6 x.size∨dd=true∨dk≠x.key∨dc≠x.cookie∨((data.map b1).length:Int)≠x.size)) ?_ ?_
   · refine uR ?_;refine aP rfl (fun c1=> ?_) (fun c1=> ?_)
     · exact ae (cz (.inl c1))
     refine uR ?_;refine aP rfl (fun c2=> ?_) (fun c2=> ?_)
     · exact ae (cz (.inr (.inl (by rw[ax]at c2;omega))))
     have c2:¬dn≠b6 x.size:=by rw[ax]at c2;omega
     refine bg (fun c3=> ?_) (fun c3=> ?_)
     · exact ae (cz (.inr (.inr (.inl c3))))
     have c3:dd=false:=c3;refine uR ?_;refine aP rfl (fun c4=> ?_) (fun c4=> ?_)
     · exact ae (cz (.inr (.inr (.inr (.inl c4)))))
     refine uR ?_;refine aP rfl (fun c5=> ?_) (fun c5=> ?_)
     · exact ae (cz (.inr (.inr (.inr (.inr (.inl c5))))))
     refine uR ?_;refine ae (fG ?_);constructor
     · exact fun h=> .inr (.inr (.inr (.inr (.inr h))))
     · rintro(h|h|h|h|h|h)
       · exact absurd h c1
       · exact absurd h c2
       · rw[c3]at h;cases h
       · exact absurd h c4
       · exact absurd h c5
       · exact h
   rintro _ ⟨t,rfl,ht⟩;refine nW ?_;refine bg (fun hc=> ?_) (fun hc=> ?_)
   · rw[au (ht.1 hc)]at hy;refine ae ?_;exact hy
   · rw[aE (fun h=>by have hc:t=false:=hc;rw[ht.2 h]at hc;cases hc)]at hy;refine ae ?_;exact hy
theorem YR {F105 F106 F107 F108:List L→Option (List L)} {ls:List L} (hl:ls.length=17) {b c:Bool} (h1:F105 (ls.take 13)=some [.b b]) (h2:F106 (((ls.drop 10).take 1).append (ls.drop 13))=some [.b c]) (h3:F107 []=some []):
  xd F105 F106 F107 F108 ls=if b=true then(if c=true then jv F108 ls 22 0 else some [.i 0,.i 0,.b false,.i 1,.r []])else some [.i 0,.i 0,.b false,.i 1,.r []]:=by
 unfold xd;rw[au hl,h1]
 cases b with
 |false=>rfl
 | true=>
  show(match F106 (((ls.drop 10).take 1).append (ls.drop 13))with|some [c]=>if c.br=true then(if F107 []=some []then jv F108 ls 22 0 else none)else some [.i 0,.i 0,.b false,.i 1,.r []]|_=>none)=_;rw[h2]
  cases c with
  |false=>rfl
  |true=>
   show(if F107 []=some []then jv F108 ls 22 0 else none)=_;rw[au h3];rfl
theorem afK (x:It) (o:Option (List Nat)):∃(ok:Bool) (key cookie:Int) (del:Bool) (data:List Nat),GO x o=[.b ok,.i key,.i cookie,.b del,.r (data.map b1)]:=by
 have hno:∃(ok:Bool) (key cookie:Int) (del:Bool) (data:List Nat),vp=[.b ok,.i key,.i cookie,.b del,.r (data.map b1)]:=⟨false,0,0,false,[],rfl⟩
 unfold GO
 cases o with
 |none=>exact hno
 |some b=>
  obtain⟨dn,de,dk,dc,dd,data,hd⟩:=Kr b;show∃(ok:Bool) (key cookie:Int) (del:Bool) (data:List Nat),wY x (b6 x.size) (nB b)=_;rw[hd];show∃(ok:Bool) (key cookie:Int) (del:Bool) (dat:List Nat),(if de≠0∨dn≠b6 x.size∨dd=true∨dk≠x.key∨dc≠x.cookie∨((data.map b1).length:Int)≠x.size then vp else[.b true,.i dk,.i dc,.b dd,.r (data.map b1)])=[.b ok,.i key,.i cookie,.b del,.r (dat.map b1)]
  split
  · exact hno
  · exact⟨_,_,_,_,_,rfl⟩
theorem ajS (a g r n:Int) (m4 m5 m6 m7 m8 m9:L) {l:List It} (hl:l.length≤4294967296) {fs:List (List Nat)} (hf:fs.length=6) {hv:List Bool} (hh:hv.length=6) (hB:∀f∈fs,B8 f) (x:It):∃(e key cookie:Int) (del:Bool) (data:List Nat),AL [.i a,.i g,.i r,.i n,m4,m5,m6,m7,m8,m9,.r (l.map aU),.r (fs.map fR),.r (hv.map hR),.i x.key,.i x.cookie,.i x.off,.i x.size]=some [.i key,.i cookie,.b del,.i e,.r (data.map b1)]∧NY [.i a,.i g,.i r,.i n,m4,m5,m6,m7,m8,m9,.r (l.map aU),.r (fs.map fR),.r (hv.map hR),.i x.key,.i x.cookie,.i x.off,.i x.size]=some [.i e,.i key,.i cookie,.b del,.r (data.map b1)]:=by
 obtain⟨bh,C_⟩:=du (jo a g r n l);obtain⟨bx,So⟩:=du (x∈l);have nJ:=afU a g r n m4 m5 m6 m7 m8 m9 l hl fs hf hv hh C_;have Ip:=aAG l hl x So;have Sq:=abZ a g r n m4 m5 m6 m7 m8 m9 l hl C_;have aik:wM []=some []:=rfl;have errP:∀(h:bh=false∨bx=false),AL [.i a,.i g,.i r,.i n,m4,m5,m6,m7,m8,m9,.r (l.map aU),.r (fs.map fR),.r (hv.map hR),.i x.key,.i x.cookie,.i x.off,.i x.size]=some [.i 0,.i 0,.b false,.i 1,.r []]:=by
   intro h;rw[show AL [.i a,.i g,.i r,.i n,m4,m5,m6,m7,m8,m9,.r (l.map aU),.r (fs.map fR),.r (hv.map hR),.i x.key,.i x.cookie,.i x.off,.i x.size]=_ from YR (F105:=tA) (F106:=vK) (F107:=wM) (F108:=lr) (ls:=[.i a,.i g,.i r,.i n,m4,m5,m6,m7,m8,m9,.r (l.map aU),.r (fs.map fR),.r (hv.map hR),.i x.key,.i x.cookie,.i x.off,.i x.size]) rfl nJ Ip aik]
   cases bh with
   |false=>rfl
   | true=>cases bx with
     |false=>rfl
     |true=>rcases h with h|h<;>cases h
 by_cases hH:jo a g r n l
 · by_cases hx :x∈l
   ·
     obtain⟨K,hK⟩:=asm x.off (x.off+b6 x.size) (by have:=Cj x.size;omega);have hcP:=fun k (hk:k<22)=>avU a g r n m4 m5 m6 m7 m8 m9 hl hH hf hB hh (sk:=nY.getD k []) (aax hk) hx hK
     have hcR:=fun k (hk:k<22)=>atl a g r n m4 m5 m6 m7 m8 m9 hl hH hf hB hh hk hx hK
     have gN:∀m k,m+k=22→∃(e key cookie:Int) (del:Bool) (data:List Nat),jv lr [.i a,.i g,.i r,.i n,m4,m5,m6,m7,m8,m9,.r (l.map aU),.r (fs.map fR),.r (hv.map hR),.i x.key,.i x.cookie,.i x.off,.i x.size] m k=some [.i key,.i cookie,.b del,.i e,.r (data.map b1)]:=by
       intro m
       induction m with
       |zero=>intro k _;exact⟨11,0,0,false,[],rfl⟩
       | succ m ih=>
         intro k hk;obtain⟨ok,key,cookie,del,data,hc⟩:=afK x (i_ (gV fs hv (nY.getD k []) n) fs x.off (x.off+b6 x.size) K 0 []);have h1:lr (BT [.i a,.i g,.i r,.i n,m4,m5,m6,m7,m8,m9,.r (l.map aU),.r (fs.map fR),.r (hv.map hR),.i x.key,.i x.cookie,.i x.off,.i x.size] (kE k))=some [.b ok,.i key,.i cookie,.b del,.r (data.map b1)]:=by rw[←hc,O0];exact hcP k om
         rw[jv,h1];show∃(e Iq Ir:Int) (Is:Bool) (Iu:List Nat),(if ok=true then some [L.i key,.i cookie,.b del,.i 0,.r (data.map b1)]else jv lr _ m (k+1))=_
         cases ok with
         |true=>exact⟨0,key,cookie,del,data,rfl⟩
         |false=>exact ih (k+1) om
     obtain⟨e,key,cookie,del,data,hres⟩:=gN 22 0 rfl;have Sr:bh=true:=C_.2 hH;have hxt:bx=true:=So.2 hx;subst Sr hxt;refine⟨e,key,cookie,del,data,?_,?_⟩
     · rw[show AL [.i a,.i g,.i r,.i n,m4,m5,m6,m7,m8,m9,.r (l.map aU),.r (fs.map fR),.r (hv.map hR),.i x.key,.i x.cookie,.i x.off,.i x.size]=_ from YR (F105:=tA) (F106:=vK) (F107:=wM) (F108:=lr) (ls:=[.i a,.i g,.i r,.i n,m4,m5,m6,m7,m8,m9,.r (l.map aU),.r (fs.map fR),.r (hv.map hR),.i x.key,.i x.cookie,.i x.off,.i x.size]) rfl nJ Ip aik];exact hres
     · refine a_ ?_;unfold DS;refine aH (fun xs=>xs=[.b false]) ?_ ?_
       · refine ay Sq rfl rfl (uR ?_);refine cW rfl (uR ?_);refine cJ rfl (by rw[ax,hf];decide) (uR ?_);refine ae ?_;exact dF (by rw[ax,hh];decide)
       rintro _ rfl;refine nW ?_;refine cW rfl ?_;refine aH (fun xs=>xs=[.b true]) ?_ ?_
       · refine wp_loop (I:=fun y=>∃(i:Nat) (b:Bool),y=[.b b,.i i]∧i≤l.length∧(b=true ↔ x∈l.take i)) (mu:=fun y=>match y with|[_,.i i]=>l.length-i.toNat|_=>0) ⟨0,false,rfl,om,by simp⟩ ?_;rintro y ⟨i,b,rfl,e1,e2⟩;refine uR ?_;refine aP rfl (fun hc=> ?_) (fun hc=> ?_);rotate_left
         · rw[ax]at hc;refine ae ?_;show[L.b b]=[L.b true]
           rw[show b=true by rw[ir om]at e2;exact e2.2 hx]
         rw[ax]at hc;have hi:i<l.length:=om;have eZ:l.take (i+1)=l.take i++ [l[i]]:=iQ hi;refine aH (fun xs=>∃b:Bool,xs=[.b b]∧(b=true ↔ x∈l.take (i+1))) ?_ ?_
         · refine bg (fun hy=> ?_) (fun hy=> ?_)
           · have hy:b=true:=hy;exact ae ⟨true,rfl,by rw[eZ,ei];exact⟨fun _=> .inl (e2.1 hy),fun _=>rfl⟩⟩
           · have hy:b=false:=hy;refine bz (f:=aU) (j:=i) rfl rfl hi rfl (uR ?_);refine ae ⟨(((decide (l[i].key=x.key)&&decide (l[i].cookie=x.cookie))&&decide (l[i].off=x.off))&&decide (l[i].size=x.size)),rfl,?_⟩;rw[eZ,ei,eS];simp only[bt,cg];constructor
             · rintro⟨⟨⟨h1,h2⟩,h3⟩,h4⟩;right;cases x;cases h:l[i];simp only[h]at*;subst h1 h2 h3 h4;rfl
             · rintro(h|h)
               · rw[e2.2 h]at hy;cases hy
               · rw[h];exact⟨⟨⟨rfl,rfl⟩,rfl⟩,rfl⟩
         rintro _ ⟨b',rfl,hb'⟩;refine nW ?_;refine bP (i:=i) rfl om (nW ?_);refine ae ⟨⟨i+1,b',rfl,om,hb'⟩,?_⟩;show l.length- ((i+1:Nat):Int).toNat<l.length-i;omega
       rintro _ rfl;refine uR ?_;refine cW rfl ?_;refine aH (fun xs=>xs=[]∧jv lr [.i a,.i g,.i r,.i n,m4,m5,m6,m7,m8,m9,.r (l.map aU),.r (fs.map fR),.r (hv.map hR),.i x.key,.i x.cookie,.i x.off,.i x.size] 0 22=some [.i key,.i cookie,.b del,.i e,.r (data.map b1)]) ?_ ?_;rotate_left
       · rintro _ ⟨rfl,h⟩;refine nW ?_;refine ae ?_;have h:=p9 h;injection h with h1 h
         injection h with h2 h
         injection h with h3 h
         injection h with h4 h
         injection h with h5 h
         show[L.i 11,L.i 0,L.i 0,L.b false,L.r []]=[L.i e,L.i key,L.i cookie,L.b del,L.r (data.map b1)]
         rw[←h1,←h2,←h3,←h4,←h5]
       refine wp_loop (I:=fun y=>∃k:Nat,y=[.i k]∧k≤22∧jv lr [.i a,.i g,.i r,.i n,m4,m5,m6,m7,m8,m9,.r (l.map aU),.r (fs.map fR),.r (hv.map hR),.i x.key,.i x.cookie,.i x.off,.i x.size] (22-k) k=some [.i key,.i cookie,.b del,.i e,.r (data.map b1)]) (mu:=fun y=>match y with|[.i k]=>22-k.toNat|_=>0) ⟨0,rfl,om,hres⟩ ?_;rintro y ⟨k,rfl,e1,e2⟩;refine uR ?_;refine aP rfl (fun hc=> ?_) (fun hc=> ?_);rotate_left
       · have hc:¬(k:Int)<22:=hc;obtain rfl:k=22:=om;exact ae ⟨rfl,e2⟩
       have hc:(k:Int)<22:=hc;obtain⟨ok,Iq,Ir,Is,Iu,hcc⟩:=afK x (i_ (gV fs hv (nY.getD k []) n) fs x.off (x.off+b6 x.size) K 0 []);have h1:lr (BT [.i a,.i g,.i r,.i n,m4,m5,m6,m7,m8,m9,.r (l.map aU),.r (fs.map fR),.r (hv.map hR),.i x.key,.i x.cookie,.i x.off,.i x.size] (kE k))=some [.b ok,.i Iq,.i Ir,.b Is,.r (Iu.map b1)]:=by rw[←hcc,O0];exact hcP k om
       have h2:=hcR k om;rw[hcc]at h2;rw[show 22-k=(22- (k+1))+1 by omega,jv,h1]at e2;have e2:(if ok=true then some [L.i Iq,.i Ir,.b Is,.i 0,.r (Iu.map b1)]else jv lr _ (22- (k+1)) (k+1))=_:=e2;refine ay h2 rfl rfl (nW ?_);refine bg (fun hz=> ?_) (fun hz=> ?_)
       · have hz:ok=true:=hz;rw[au hz]at e2;have h:=p9 e2;injection h with h1 h
         injection h with h2 h
         injection h with h3 h
         injection h with h4 h
         injection h with h5 h
         refine ae ?_;show[L.i 0,L.i Iq,L.i Ir,L.b Is,L.r (Iu.map b1)]=[L.i e,L.i key,L.i cookie,L.b del,L.r (data.map b1)]
         rw[h1,h2,h3,h5,h4]
       · have hz:ok=false:=hz;rw[aE (by rw[hz];decide)]at e2;refine bP (i:=k) rfl om (nW ?_);refine ae ⟨⟨k+1,rfl,om,e2⟩,?_⟩;show 22- ((k+1:Nat):Int).toNat<22-k;omega
   · have hxf:bx=false:=by cases bx with|false=>rfl|true=>exact absurd (So.1 rfl) hx
     have Sr:bh=true:=C_.2 hH;refine⟨1,0,0,false,[],errP (.inr hxf),?_⟩;subst Sr;refine a_ ?_;unfold DS;refine aH (fun xs=>xs=[.b false]) ?_ ?_
     · refine ay Sq rfl rfl (uR ?_);refine cW rfl (uR ?_);refine cJ rfl (by rw[ax,hf];decide) (uR ?_);refine ae ?_;exact dF (by rw[ax,hh];decide)
     rintro _ rfl;refine nW ?_;refine cW rfl ?_;refine aH (fun xs=>xs=[.b false]) ?_ ?_
     · refine wp_loop (I:=fun y=>∃(i:Nat) (b:Bool),y=[.b b,.i i]∧i≤l.length∧(b=true ↔ x∈l.take i)) (mu:=fun y=>match y with|[_,.i i]=>l.length-i.toNat|_=>0) ⟨0,false,rfl,om,by simp⟩ ?_;rintro y ⟨i,b,rfl,e1,e2⟩;refine uR ?_;refine aP rfl (fun hc=> ?_) (fun hc=> ?_);rotate_left
       · rw[ax]at hc;refine ae ?_;show[L.b b]=[L.b false]
         rw[show b=false by rw[ir om]at e2;exact IX.2 fun h=>hx (e2.1 h)]
       rw[ax]at hc;have hi:i<l.length:=om;have eZ:l.take (i+1)=l.take i++ [l[i]]:=iQ hi;refine aH (fun xs=>∃b:Bool,xs=[.b b]∧(b=true ↔ x∈l.take (i+1))) ?_ ?_
       · refine bg (fun hy=> ?_) (fun hy=> ?_)
         · have hy:b=true:=hy;exact ae ⟨true,rfl,by rw[eZ,ei];exact⟨fun _=> .inl (e2.1 hy),fun _=>rfl⟩⟩
         · have hy:b=false:=hy;refine bz (f:=aU) (j:=i) rfl rfl hi rfl (uR ?_);refine ae ⟨(((decide (l[i].key=x.key)&&decide (l[i].cookie=x.cookie))&&decide (l[i].off=x.off))&&decide (l[i].size=x.size)),rfl,?_⟩;rw[eZ,ei,eS];simp only[bt,cg];constructor
           · rintro⟨⟨⟨h1,h2⟩,h3⟩,h4⟩;right;cases x;cases h:l[i];simp only[h]at*;subst h1 h2 h3 h4;rfl
           · rintro(h|h)
             · rw[e2.2 h]at hy;cases hy
             · rw[h];exact⟨⟨⟨rfl,rfl⟩,rfl⟩,rfl⟩
       rintro _ ⟨b',rfl,hb'⟩;refine nW ?_;refine bP (i:=i) rfl om (nW ?_);refine ae ⟨⟨i+1,b',rfl,om,hb'⟩,?_⟩;show l.length- ((i+1:Nat):Int).toNat<l.length-i;omega
     rintro _ rfl;refine uR ?_;refine iz rfl ?_;exact ae rfl
 · have pT:bh=false:=by cases bh with|false=>rfl|true=>exact absurd (C_.1 rfl) hH
   refine⟨1,0,0,false,[],errP (.inl pT),?_⟩;subst pT;refine a_ ?_;unfold DS;refine aH (fun xs=>xs=[.b true]) ?_ ?_
   · refine ay Sq rfl rfl (uR ?_);refine iz rfl ?_;exact ae rfl
   rintro _ rfl;refine nW ?_;refine iz rfl ?_;exact ae rfl
end
end
end Go.Proofs.YtndegphojkiblaaGreatDoor
