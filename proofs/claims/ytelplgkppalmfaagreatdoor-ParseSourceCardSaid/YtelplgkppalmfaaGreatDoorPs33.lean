/-
  Parts of the proof: RafG RafB RafC RafD.
-/
import Derived.Test.YtelplgkppalmfaaGreatDoorPs00
import Derived.Test.YtelplgkppalmfaaGreatDoorPs27
import Derived.Test.YtelplgkppalmfaaGreatDoorPs32
import Derived.LoopN
set_option maxRecDepth 100000
set_option maxHeartbeats 8000000
set_option linter.unusedVariables false
set_option linter.unusedSimpArgs false
set_option linter.defProp false
namespace Go.Proofs.YtelplgkppalmfaaGreatDoor
open Go.Proofs.Tryz
section
def zY:St:= .mk 0 [] [] [] []
mutual
def cm (en:Int):Nat->RS->List St×RS
 |0,σ=>([],σ)
 |f+1,σ=>((ea en f [] (σ.want en t_)).1,(ea en f [] (σ.want en t_)).2.want en pF)
def ea (en:Int):Nat->List St->RS->List St×RS
 |0,acc,σ=>(acc,σ)
 |f+1,acc,σ=>if σ.isD||σ.is pF then(acc,σ)else ea en f (acc++[(dt en f σ).1]) (dt en f σ).2
def nq (en:Int):Nat->RS->St×RS
 |0,σ=>(zY,σ)
 |f+1,σ=>
  if(cm en f (br en f 1 σ).2).2.is nS then
   if(cm en f (br en f 1 σ).2).2.tail.is sF then(.mk 4 [] [(br en f 1 σ).1] (cm en f (br en f 1 σ).2).1 [(nq en f (cm en f (br en f 1 σ).2).2.tail.tail).1],(nq en f (cm en f (br en f 1 σ).2).2.tail.tail).2)
   else(.mk 4 [] [(br en f 1 σ).1] (cm en f (br en f 1 σ).2).1 (cm en f (cm en f (br en f 1 σ).2).2.tail).1,(cm en f (cm en f (br en f 1 σ).2).2.tail).2)
  else(.mk 4 [] [(br en f 1 σ).1] (cm en f (br en f 1 σ).2).1 [],(cm en f (br en f 1 σ).2).2)
def dt (en:Int):Nat->RS->St×RS
 |0,σ=>(zY,σ)
 |f+1,σ=>
  if σ.is gA then
   if(σ.tail.take en 1).2.is l9 then(.mk 1 (σ.tail.take en 1).1.t [(br en f 1 (σ.tail.take en 1).2.tail).1] [] [],(br en f 1 (σ.tail.take en 1).2.tail).2.want en iu)
   else(.mk 1 (σ.tail.take en 1).1.t [] [] [],(σ.tail.take en 1).2.want en iu)
  else if σ.is sF then nq en f σ.tail
  else if σ.is lz then(.mk 5 [] [(br en f 1 σ.tail).1] (cm en f (br en f 1 σ.tail).2).1 [],(cm en f (br en f 1 σ.tail).2).2)
  else if σ.is j6 then
   if σ.tail.is iu then(.mk 6 [] [] [] [],σ.tail.want en iu)
   else(.mk 6 [] [(br en f 1 σ.tail).1] [] [],(br en f 1 σ.tail).2.want en iu)
  else if(σ.take en 1).2.is l9 then(.mk 2 (σ.take en 1).1.t [(br en f 1 (σ.take en 1).2.tail).1] [] [],(br en f 1 (σ.take en 1).2.tail).2.want en iu)
  else if(σ.take en 1).2.is jD then
   (.mk 3 (σ.take en 1).1.t [(br en f 1 (σ.take en 1).2.tail).1,(br en f 1 (((br en f 1 (σ.take en 1).2.tail).2.want en jq).want en l9)).1] [] [],(br en f 1 (((br en f 1 (σ.take en 1).2.tail).2.want en jq).want en l9)).2.want en iu)
  else(.mk 7 [] [.mk 5 [] (σ.take en 1).1.t [] 0 (ef en (f-1) ((σ.take en 1).2.want en fi)).1] [] [],(ef en (f-1) ((σ.take en 1).2.want en fi)).2.want en iu)
end
def ja (en:Int) (σ:RS):Vr×RS:=
 if(σ.take en 1).2.is jD then
  (⟨(σ.take en 1).1.t,((if(σ.take en 1).2.tail.hd.k=3/\((σ.take en 1).2.tail.hd.v<1\/2000<(σ.take en 1).2.tail.hd.v)then(σ.take en 1).2.tail.fail en 2 else(σ.take en 1).2.tail).take en 3).1.v⟩,
   (((if(σ.take en 1).2.tail.hd.k=3/\((σ.take en 1).2.tail.hd.v<1\/2000<(σ.take en 1).2.tail.hd.v)then(σ.take en 1).2.tail.fail en 2 else(σ.take en 1).2.tail).take en 3).2.want en jq).want en iu)
 else(⟨(σ.take en 1).1.t,0⟩,(σ.take en 1).2.want en iu)
def d_ (en:Int):Nat->List (List UInt8)->RS->List (List UInt8)×RS
 |0,acc,σ=>(acc,σ)
 |f+1,acc,σ=>if σ.isD then(acc,σ)else if(σ.take en 1).2.is kh then d_ en f (acc++[(σ.take en 1).1.t]) (σ.take en 1).2.tail else(acc++[(σ.take en 1).1.t],(σ.take en 1).2)
def jt (en:Int) (f:Nat) (σ:RS):List (List UInt8)×RS:=if σ.is eg then([],σ.tail)else((d_ en f [] σ).1,(d_ en f [] σ).2.want en eg)
def eK (en:Int) (f:Nat) (σ:RS):Fc×RS:=
 (⟨(σ.take en 1).1.t,(jt en f ((σ.take en 1).2.want en fi)).1,(cm en f (jt en f ((σ.take en 1).2.want en fi)).2).1⟩,(cm en f (jt en f ((σ.take en 1).2.want en fi)).2).2)
def eC (en:Int):Nat->Pg->RS->Pg×RS
 |0,p,σ=>(p,σ)
 |f+1,p,σ=>if σ.isD||σ.size==0 then(p,σ)
  else if σ.is gA then eC en f ⟨p.vs++[(ja en σ.tail).1],p.fs⟩ (ja en σ.tail).2
  else if σ.is gc then eC en f ⟨p.vs,p.fs++[(eK en f σ.tail).1]⟩ (eK en f σ.tail).2
  else eC en f p (σ.fail en 3)
theorem j3 (en k p e:Int) (hk:k≠0):(RS.dead p e).take en k=(zT, .dead p e):=by
 unfold RS.take;rw[if_neg (by simp only[RS.hd,zT];exact fun h=>hk h.symm)];rfl
theorem lI (en p e:Int) (f:Nat):(ef en f (.dead p e)).2= .dead p e:=by
 cases f with
 |zero=>rw[ef]
 |succ f=>rw[ef,dR,if_neg (by simp),(lB en p e f).2.2.2]
theorem kS (en p e:Int) (f:Nat) (acc:List St):ea en f acc (.dead p e)=(acc, .dead p e):=by
 cases f with
 |zero=>rw[ea]
 |succ f=>rw[ea];rfl
theorem iD (en p e:Int) (f:Nat):(cm en f (.dead p e)).2= .dead p e:=by
 cases f with
 |zero=>rw[cm]
 |succ f=>rw[cm,bF,kS,bF]
theorem vU (en p e:Int): ∀f:Nat,(nq en f (.dead p e)).2= .dead p e/\(dt en f (.dead p e)).2= .dead p e
 |0=>by constructor<;>simp[nq,dt]
 |f+1=>by
  have hE:=(lB en p e f).1;constructor
  ·rw[nq,hE,iD,dR,if_neg (by simp)]
  ·rw[dt];simp only[dR,j3 en 1 p e (by decide),bF,lI,aI,if_false]
theorem qi (en p e:Int) (f:Nat) (acc:List (List UInt8)):d_ en f acc (.dead p e)=(acc, .dead p e):=by
 cases f with
 |zero=>rw[d_]
 |succ f=>rw[d_];rfl
theorem oS (en p e:Int) (f:Nat):(jt en f (.dead p e)).2= .dead p e:=by
 unfold jt;rw[dR,if_neg (by simp),qi,bF]
theorem vT (en p e:Int):(ja en (.dead p e)).2= .dead p e:=by
 unfold ja;rw[j3 en 1 p e (by decide),dR,if_neg (by simp),bF]
theorem vV (en p e:Int) (f:Nat):(eK en f (.dead p e)).2= .dead p e:=by
 unfold eK;rw[j3 en 1 p e (by decide),bF,oS,iD]
theorem mi (en p e:Int) (f:Nat) (g:Pg):eC en f g (.dead p e)=(g, .dead p e):=by
 cases f with
 |zero=>rw[eC]
 |succ f=>rw[eC];rfl
theorem fL (en:Int) (s:List UInt8) (r:List bB):(bP s r= .ok ((),r.tail)/\(RS.live r).want en s= .live r.tail/\r.length=r.tail.length+1)\/(bP s r= .error (r,3)/\(RS.live r).want en s= .dead (pq en r) 3):=by
 unfold bP RS.want;rw[dw]
 cases h:b6 s r with
 |true=>exact .inl ⟨rfl,rfl,aW h⟩
 |false=>exact .inr ⟨rfl,rfl⟩
theorem jc (en:Int) (r:List bB):(ge r= .ok ((bV r).t,r.tail)/\(RS.live r).take en 1=(bV r, .live r.tail)/\r.length=r.tail.length+1)\/(ge r= .error (r,3)/\(RS.live r).take en 1=(zT, .dead (pq en r) 3)):=by
 unfold ge RS.take;by_cases h:(bV r).k=1
 ·exact .inl ⟨by rw[if_pos h],by rw[if_pos (show(RS.live r).hd.k=1 from h)];rfl,fh (by rw[h];decide)⟩
 ·exact .inr ⟨by rw[if_neg h],by rw[if_neg (show ¬(RS.live r).hd.k=1 from h)];rfl⟩
theorem RS.hd_live (r:List bB):(RS.live r).hd=bV r:=rfl
theorem RS.tail_live (r:List bB):(RS.live r).tail= .live r.tail:=rfl
theorem bO {α β:Type} (a:α) (q:List bB) (k:α->List bB->PR β):PR.then (.ok (a,q)) k=k a q:=rfl
theorem fU {α:Type} (en:Int) (s:List UInt8) (a:α) (q:List bB):gP en ((bP s q).then fun _ r=> .ok (a,r)) (a,(RS.live q).want en s):=by
 rcases fL en s q with⟨h1,h2,_⟩|⟨h1,h2⟩
 ·rw[h1,h2];exact rfl
 ·rw[h1,h2];exact rfl
theorem oQ (en:Int): ∀(f:Nat),
  (∀l,4*l.length+1<=f->gP en (cZ f l) (cm en f (.live l)))/\
  (∀acc l,4*l.length+4<=f->gP en (dS f acc l) ((ea en f acc (.live l)).1,(ea en f acc (.live l)).2.want en pF))/\
  (∀l,4*l.length+3<=f->gP en (lW f l) (nq en f (.live l)))/\(∀l,4*l.length+3<=f->gP en (de f l) (dt en f (.live l)))
 |0=>⟨fun _ h=>by omega,fun _ _ h=>by omega,fun _ h=>by omega,fun _ h=>by omega⟩
 |f+1=>by
  obtain⟨iB,iC,iI,iS⟩:=oQ en f;have iE:=(rV en f).1;obtain⟨xE,_,_,xN,_,_⟩:=f7 f;obtain⟨xB,xC,xI,xS⟩:=iz f;have dE:=fun p e=>(lB en p e f).1;refine⟨fun l hf=> ?_,fun acc l hf=> ?_,fun l hf=> ?_,fun l hf=> ?_⟩
  ·rw[cZ,cm];rcases fL en t_ l with⟨h1,h2,h3⟩|⟨h1,h2⟩
   ·rw[h1,h2,bO];exact iC [] l.tail (by omega)
   ·rw[h1,h2,bm,kS,bF];exact rfl
  ·have e:ea en (f+1) acc (.live l)=if b6 pF l then(acc, .live l)else ea en f (acc++[(dt en f (.live l)).1]) (dt en f (.live l)).2:=by rw[ea];rfl
   rw[dS,e]
   cases hb:b6 pF l with
   |true=>
    rw[if_pos rfl,if_pos rfl];unfold RS.want;rw[dw,hb];exact rfl
   |false=>
    rw[if_neg (by simp),if_neg (by simp)];rcases(iS l (by omega)).ways with⟨a,q,h1,h2,h3⟩|⟨q,m,h1,h2⟩
    ·rw[h1,h2,h3,bO];have:=xS _ _ _ h1;exact iC _ q (by omega)
    ·rw[h1,h2,bm,kS,bF];exact rfl
  ·rw[lW,nq];rcases(iE 1 l (by omega)).ways with⟨a,q,h1,h2,h3⟩|⟨q,m,h1,h2⟩
   ·rw[h1,h2,h3,bO];have:=xE _ _ _ _ h1;rcases(iB q (by omega)).ways with⟨b,q2,g1,g2,g3⟩|⟨q2,m,g1,g2⟩
    ·rw[g1,g2,g3,bO];have:=xB _ _ _ g1;rw[dw]
     cases he:b6 nS q2 with
     |true=>
      have:=aW he;rw[if_pos rfl,if_pos rfl];show gP en _ (if b6 sF q2.tail then _ else _)
      cases hi:b6 sF q2.tail with
      |true=>
       have:=aW hi;rw[if_pos rfl,if_pos rfl];show gP en _ (St.mk 4 [] [a] b [(nq en f (.live q2.tail.tail)).1],(nq en f (.live q2.tail.tail)).2);rcases(iI q2.tail.tail (by omega)).ways with⟨c,q3,k1,k2,k3⟩|⟨q3,m,k1,k2⟩
       ·rw[k1,k2,k3];exact rfl
       ·rw[k1,k2];exact rfl
      |false=>
       rw[if_neg (by simp),if_neg (by simp)];show gP en _ (St.mk 4 [] [a] b (cm en f (.live q2.tail)).1,(cm en f (.live q2.tail)).2);rcases(iB q2.tail (by omega)).ways with⟨c,q3,k1,k2,k3⟩|⟨q3,m,k1,k2⟩
       ·rw[k1,k2,k3];exact rfl
       ·rw[k1,k2];exact rfl
     |false=>
      rw[if_neg (by simp),if_neg (by simp)];exact rfl
    ·rw[g1,g2,bm,dR,if_neg (by simp)];exact rfl
   ·rw[h1,h2,bm,iD,dR,if_neg (by simp)];exact rfl
  ·rw[de,dt];repeat rw[RS.tail_live]
   repeat rw[dw]
   cases hi:b6 sF l with
   |true=>
    have:=aW hi;rw[gm hi (b:=gA) (by decide),if_neg (show ¬(false=true) by simp),if_pos rfl,if_pos rfl];exact iI l.tail (by omega)
   |false=>
   rw[if_neg (show ¬(false=true) by simp)]
   cases hw:b6 lz l with
   |true=>
    have:=aW hw;rw[gm hw (b:=gA) (by decide),if_neg (show ¬(false=true) by simp),if_pos rfl,if_neg (show ¬(false=true) by simp),if_pos rfl];rcases(iE 1 l.tail (by omega)).ways with⟨a,q,h1,h2,h3⟩|⟨q,m,h1,h2⟩
    ·rw[h1,h2,h3,bO];have:=xE _ _ _ _ h1;rcases(iB q (by omega)).ways with⟨b,q2,g1,g2,g3⟩|⟨q2,m,g1,g2⟩
     ·rw[g1,g2,g3];exact rfl
     ·rw[g1,g2];exact rfl
    ·rw[h1,h2,iD];exact rfl
   |false=>
   rw[if_neg (show ¬(false=true) by simp)]
   cases hv:b6 gA l with
   |true=>
    have:=aW hv;rw[if_pos rfl,if_pos rfl];rcases jc en l.tail with⟨h1,h2,h3⟩|⟨h1,h2⟩
    ·rw[h1,h2,bO];simp only;repeat rw[RS.tail_live]
     repeat rw[dw]
     cases he:b6 l9 l.tail.tail with
     |true=>
      have:=aW he;rw[if_pos rfl,if_pos rfl];rcases(iE 1 l.tail.tail.tail (by omega)).ways with⟨a,q,k1,k2,k3⟩|⟨q,m,k1,k2⟩
      ·rw[k1,k2,k3,bO,bO];exact fU en iu _ q
      ·rw[k1,k2,bF];exact rfl
     |false=>
      rw[if_neg (show ¬(false=true) by simp),if_neg (show ¬(false=true) by simp),bO];exact fU en iu _ _
    ·rw[h1,h2,bm,dR,if_neg (by simp),bF];exact rfl
   |false=>
   rw[if_neg (show ¬(false=true) by simp),if_neg (show ¬(false=true) by simp),if_neg (show ¬(false=true) by simp),if_neg (show ¬(false=true) by simp)]
   cases hr:b6 j6 l with
   |true=>
    have:=aW hr;rw[if_pos rfl,if_pos rfl]
    cases hs:b6 iu l.tail with
    |true=>
     rw[if_pos rfl,if_pos rfl,bO];exact fU en iu _ _
    |false=>
     rw[if_neg (show ¬(false=true) by simp),if_neg (show ¬(false=true) by simp)];rcases(iE 1 l.tail (by omega)).ways with⟨a,q,k1,k2,k3⟩|⟨q,m,k1,k2⟩
     ·rw[k1,k2,k3,bO,bO];exact fU en iu _ q
     ·rw[k1,k2,bF];exact rfl
   |false=>
   rw[if_neg (show ¬(false=true) by simp),if_neg (show ¬(false=true) by simp)];rcases jc en l with⟨h1,h2,h3⟩|⟨h1,h2⟩
   ·rw[h1,h2,bO];simp only;repeat rw[RS.tail_live]
    repeat rw[dw]
    cases hlp:b6 fi l.tail with
    |true=>
     have:=aW hlp;rw[gm hlp (b:=l9) (by decide),gm hlp (b:=jD) (by decide),if_pos rfl,if_neg (show ¬(false=true) by simp),if_neg (show ¬(false=true) by simp)];obtain⟨k,rfl⟩: ∃k,f=k+1:=⟨f-1,by omega⟩
     rw[ch,gm hlp (b:=jD) (by decide),if_neg (show ¬(false=true) by simp),hlp,if_pos rfl];rw[show(RS.live l.tail).want en fi= .live l.tail.tail by unfold RS.want;rw[dw,hlp];rfl];rw[show k+1-1=k from rfl];rcases((rV en k).2.2.2.2.1 l.tail.tail (by omega)).ways with⟨a,q,k1,k2,k3⟩|⟨q,m,k1,k2⟩
     ·rw[k1,k2,k3,bO,bO,bO];exact fU en iu _ q
     ·rw[k1,k2,bF];exact rfl
    |false=>
     rw[if_neg (show ¬(false=true) by simp)]
     cases hls:b6 jD l.tail with
     |true=>
      have:=aW hls;rw[gm hls (b:=l9) (by decide),if_pos rfl,if_neg (show ¬(false=true) by simp),if_pos rfl];rcases(iE 1 l.tail.tail (by omega)).ways with⟨a,q,k1,k2,k3⟩|⟨q,m,k1,k2⟩
      ·rw[k1,k2,k3,bO];have:=xE _ _ _ _ k1;rcases fL en jq q with⟨m1,m2,m3⟩|⟨m1,m2⟩
       ·rw[m1,m2,bO];rcases fL en l9 q.tail with⟨n1,n2,n3⟩|⟨n1,n2⟩
        ·rw[n1,n2,bO];rcases(iE 1 q.tail.tail (by omega)).ways with⟨b,q2,o1,o2,o3⟩|⟨q2,m,o1,o2⟩
         ·rw[o1,o2,o3,bO,bO];exact fU en iu _ q2
         ·rw[o1,o2,bF];exact rfl
        ·rw[n1,n2,bm,bm,dE,bF];exact rfl
       ·rw[m1,m2,bm,bm,bF,dE,bF];exact rfl
      ·rw[k1,k2,bm,bm,bF,bF,dE,bF];exact rfl
     |false=>
      rw[if_neg (show ¬(false=true) by simp),if_neg (show ¬(false=true) by simp)]
      cases he:b6 l9 l.tail with
      |true=>
       have:=aW he;rw[if_pos rfl];unfold bP;rw[if_pos he,bO];rcases(iE 1 l.tail.tail (by omega)).ways with⟨a,q,k1,k2,k3⟩|⟨q,m,k1,k2⟩
       ·rw[k1,k2,k3,bO,bO];exact fU en iu _ q
       ·rw[k1,k2,bF];exact rfl
      |false=>
       rw[if_neg (show ¬(false=true) by simp)];have e1:bP l9 l.tail= .error (l.tail,3):=by unfold bP;rw[he];rfl
       have e2:(RS.live l.tail).want en fi= .dead (pq en l.tail) 3:=by unfold RS.want;rw[dw,hlp];rfl
       rw[e1,e2,bm,bm,lI,bF];exact rfl
   ·rw[h1,h2,bm];simp only[dR,bF,lI,aI,if_false];exact rfl
theorem ul (en:Int) (l:List bB):gP en (ig l) (ja en (.live l)):=by
 unfold ig ja;rcases jc en l with⟨h1,h2,h3⟩|⟨h1,h2⟩
 ·rw[h1,h2,bO];repeat rw[RS.tail_live]
  repeat rw[RS.hd_live]
  rw[dw]
  cases hl:b6 jD l.tail with
  |false=>
   rw[if_neg (show ¬(false=true) by simp),if_neg (show ¬(false=true) by simp),bO];exact fU en iu _ _
  |true=>
   rw[if_pos rfl,if_pos rfl];by_cases h3:(bV l.tail.tail).k=3
   ·rw[if_pos h3];by_cases hr:(bV l.tail.tail).v<1\/2000<(bV l.tail.tail).v
    ·rw[if_pos hr,if_pos ⟨h3,hr⟩];show gP en _ (_,(RS.want en jq ((RS.dead (pq en l.tail.tail) 2).take en 3).2).want en iu);rw[j3 _ _ _ _ (by decide),bF,bF];exact rfl
    ·rw[if_neg hr,if_neg (fun h=>hr h.2)];have e:(RS.live l.tail.tail).take en 3=(bV l.tail.tail, .live l.tail.tail.tail):=by unfold RS.take;rw[if_pos (show(RS.live l.tail.tail).hd.k=3 from h3)];rfl
     rw[e];rcases fL en jq l.tail.tail.tail with⟨m1,m2,m3⟩|⟨m1,m2⟩
     ·rw[m1,m2,bO,bO];exact fU en iu _ _
     ·rw[m1,m2,bm,bm,bF];exact rfl
   ·rw[if_neg h3,if_neg (fun h=>h3 h.1)];have e:(RS.live l.tail.tail).take en 3=(zT, .dead (pq en l.tail.tail) 3):=by unfold RS.take;rw[if_neg (show ¬(RS.live l.tail.tail).hd.k=3 from h3)];rfl
    rw[e,bm,bF,bF];exact rfl
 ·rw[h1,h2,bm,dR,if_neg (by simp),bF];exact rfl
theorem rU (en:Int): ∀(f:Nat) (acc:List (List UInt8)) (l:List bB),l.length+1<=f->gP en (em f acc l) ((d_ en f acc (.live l)).1,(d_ en f acc (.live l)).2.want en eg)
 |0,_,_,h=>by omega
 |f+1,acc,l,hf=>by
  rw[em,d_,if_neg (by simp[RS.isD])];rcases jc en l with⟨h1,h2,h3⟩|⟨h1,h2⟩
  ·rw[h1,h2,bO];show gP en _ ((if b6 kh l.tail then d_ en f (acc++[(bV l).t]) (.live l.tail.tail)else(acc++[(bV l).t], .live l.tail)).1,(if b6 kh l.tail then d_ en f (acc++[(bV l).t]) (.live l.tail.tail)else(acc++[(bV l).t], .live l.tail)).2.want en eg)
   cases hp:b6 eg l.tail with
   |true=>
    rw[gm hp (b:=kh) (by decide),if_pos rfl,if_neg (show ¬(false=true) by simp)];show gP en _ (acc++[(bV l).t],(RS.live l.tail).want en eg);unfold RS.want;rw[dw,hp];exact rfl
   |false=>
    rw[if_neg (show ¬(false=true) by simp)]
    cases hc:b6 kh l.tail with
    |true=>
     have:=aW hc;rw[if_pos rfl];unfold bP;rw[if_pos hc,bO];exact rU en f _ _ (by omega)
    |false=>
     rw[if_neg (show ¬(false=true) by simp)];show gP en _ (acc++[(bV l).t],(RS.live l.tail).want en eg);unfold bP RS.want;rw[dw,hp,hc];exact rfl
  ·rw[h1,h2,bm];show gP en _ ((if(RS.dead (pq en l) 3).is kh then _ else _:List (List UInt8)×RS).1,(if(RS.dead (pq en l) 3).is kh then _ else _:List (List UInt8)×RS).2.want en eg);rw[dR,if_neg (by simp)];show gP en _ (_,(RS.dead (pq en l) 3).want en eg);rw[bF];exact rfl
theorem xz (en:Int) (f:Nat) (l:List bB) (hf:l.length+1<=f):gP en (eI f l) (jt en f (.live l)):=by
 unfold eI jt;rw[dw]
 cases hp:b6 eg l with
 |true=>exact rfl
 |false=>exact rU en f [] l hf
theorem uo (en:Int) (f:Nat) (l:List bB) (hf:4*l.length+3<=f):gP en (gE f l) (eK en f (.live l)):=by
 unfold gE eK;rcases jc en l with⟨h1,h2,h3⟩|⟨h1,h2⟩
 ·rw[h1,h2,bO];rcases fL en fi l.tail with⟨m1,m2,m3⟩|⟨m1,m2⟩
  ·rw[m1,m2,bO];rcases(xz en f l.tail.tail (by omega)).ways with⟨a,q,k1,k2,k3⟩|⟨q,m,k1,k2⟩
   ·have:=mO k1;rw[k1,k2,k3,bO];rcases((oQ en f).1 q (by omega)).ways with⟨b,q2,g1,g2,g3⟩|⟨q2,m,g1,g2⟩
    ·rw[g1,g2,g3];exact rfl
    ·rw[g1,g2];exact rfl
   ·rw[k1,k2,iD];exact rfl
  ·rw[m1,m2,bm,oS,iD];exact rfl
 ·rw[h1,h2,bm,bF,oS,iD];exact rfl
theorem qk {f:Nat} {l r:List bB} {x:Fc} (h:gE f l= .ok (x,r)):r.length<l.length:=by
 unfold gE at h;obtain⟨a,q,h1,h2⟩:=aR h;obtain⟨b,q2,h3,h4⟩:=aR h2;obtain⟨c,q3,h5,h6⟩:=aR h4;obtain⟨d,q4,h7,h8⟩:=aR h6;have:=(jd h1).2.2.2;have:=(dz h3).2.2;have:=mO h5;have:=(iz f).1 _ _ _ h7;rw[<-(bD h8).2];omega
theorem oR (en:Int): ∀(f:Nat) (p:Pg) (l:List bB),4*l.length+2<=f->gP en (df f p l) (eC en f p (.live l))
 |0,_,_,h=>by omega
 |f+1,p,l,hf=>by
  rw[df,eC]
  cases l with
  |nil=>exact rfl
  |cons t r=>
  have hne: ¬(t::r=[]):=by simp
  have hsz:((RS.live (t::r)).isD||(RS.live (t::r)).size==0)=false:=by simp[RS.isD,RS.size]
  generalize t::r=l at*;rw[if_neg hne,hsz,if_neg (show ¬(false=true) by simp)];repeat rw[dw]
  cases hv:b6 gA l with
  |true=>
   have:=aW hv;rw[if_pos rfl,if_pos rfl];show gP en _ (eC en f ⟨p.vs++[(ja en (.live l.tail)).1],p.fs⟩ (ja en (.live l.tail)).2);rcases(ul en l.tail).ways with⟨a,q,k1,k2,k3⟩|⟨q,m,k1,k2⟩
   ·have:=oV k1;rw[k1,k2,k3,bO];exact oR en f _ q (by omega)
   ·rw[k1,k2,mi];exact rfl
  |false=>
   rw[if_neg (show ¬(false=true) by simp),if_neg (show ¬(false=true) by simp)]
   cases hfu:b6 gc l with
   |true=>
    have:=aW hfu;rw[if_pos rfl];unfold bP;rw[if_pos hfu,bO];show gP en _ (eC en f ⟨p.vs,p.fs++[(eK en f (.live l.tail)).1]⟩ (eK en f (.live l.tail)).2);rcases(uo en f l.tail (by omega)).ways with⟨a,q,k1,k2,k3⟩|⟨q,m,k1,k2⟩
    ·have:=qk k1;rw[k1,k2,k3,bO];exact oR en f _ q (by omega)
    ·rw[k1,k2,mi];exact rfl
   |false=>
    rw[if_neg (show ¬(false=true) by simp)];unfold bP;rw[hfu];show gP en _ (eC en f p (.dead (pq en l) 3));rw[mi];exact rfl
end
section
open Go.RowKit
def QA (w:World) (g:Nat) (s:List UInt8) (ts:List bB) (σ:RS):Prop:=
 ∃(A:Option Addr) (c nx:Nat) (at_ er:Int),aT w g 89 #[.string (ae s), .slice A ts.length c, .int .i64 nx, .int .i64 at_, .int .i64 er]/\qD w A c ts/\(∀b off,A=some ⟨b,off,none⟩->ts≠ []->b<g)/\
  match σ with
  | .live r=>at_=0/\er=0/\nx<=ts.length/\r=ts.drop nx
  | .dead p e=>at_=p/\er=e/\e≠0
theorem QA.lt {w:World} {g:Nat} {s:List UInt8} {ts:List bB} {σ:RS} (h:QA w g s ts σ):g<w.heap.size:=let⟨_,_,_,_,_,hb,_⟩:=h;hb.lt
theorem QA.ext {w w':World} {g:Nat} {s:List UInt8} {ts:List bB} {σ:RS} (h:QA w g s ts σ) (he:al w w'):QA w' g s ts σ:=let⟨A,c,nx,at_,er,hb,ht,hn,hm⟩:=h;⟨A,c,nx,at_,er,hb.ext he,ht.ext he,hn,hm⟩
theorem j0 {w w':World} {g:Nat} {A:Option Addr} {c:Nat} {ts:List bB} {row:Option Nat} (ht:qD w A c ts) (hn: ∀b off,A=some ⟨b,off,none⟩->ts≠ []->b<g) (hg:w.grownBy w' row) (h1: ∀k,row=some k->g<=k):qD w' A c ts:=by
 refine⟨ht.le,ht.max,?_⟩;by_cases hl:ts=[]
 ·exact .inl hl
 rcases ht.rd with h0|⟨b,off,ha,hlt,hc⟩
 ·exact absurd h0 hl
 ·have hbg:=hn b off ha hl;have hbk:=hg.block b hlt (fun e=>by have:=h1 b e.symm;omega);have cc: ∀o,w'.cell? ⟨b,o,none⟩=w.cell? ⟨b,o,none⟩:=fun o=>b8 (w:=w) (a:=⟨b,o,none⟩) hbk;exact .inr ⟨b,off,ha,an hlt hg.size,fun i hi=>let⟨q0,q1,q2,q3⟩:=hc i hi;⟨(cc _).trans q0,(cc _).trans q1,(cc _).trans q2,(cc _).trans q3⟩⟩
theorem QA.grown {w w':World} {g:Nat} {s:List UInt8} {ts:List bB} {σ:RS} {row:Option Nat} (h:QA w g s ts σ) (hg:w.grownBy w' row) (h1: ∀k,row=some k->g<k):QA w' g s ts σ:=by
 obtain⟨A,c,nx,at_,er,hb,ht,hn,hm⟩:=h;exact⟨A,c,nx,at_,er,(hg.block g hb.lt (fun e=>by have:=h1 g e.symm;omega)).trans hb,j0 ht hn hg (fun k e=>aH (h1 k e)),hn,hm⟩
theorem rA {w W:World} {z0 z1 z2 z3:Value} (a b c d:Value) (hX:al w W) (hB:aT W w.heap.size 62 #[z0,z1,z2,z3]):
  (∀i,(W.setCells w.heap.size 0 [a,b,c,d]).cell? ⟨w.heap.size,i,none⟩=(#[a,b,c,d]:Array Value)[i]?)/\al w (W.setCells w.heap.size 0 [a,b,c,d]):=by
 have hb:=(((hB.set 0 a).set 1 b).set 2 c).set 3 d;exact⟨fun i=>by have:=hb.cell i;simpa[World.setCells]using this,hX.grown (bG _ _ 0 W) (fun k e=>by injection e with e;omega)⟩
theorem eZ (g:Nat) (s:List UInt8) (ts:List bB) (σ:RS) (w:World) (h:QA w g s ts σ):Calls prog 70 #[.pointer (some ⟨g,0,none⟩)] w fun e w'=>e= .returned (.agg #[.int .i64 σ.hd.k, .string (ae σ.hd.t), .int .i64 σ.hd.v, .int .i64 σ.hd.f])/\al w w':=by
 obtain⟨A,c,nx,at_,er,hb,ht,hn,hm⟩:=h;have hE0:=O w (.cells #[.int .i64 0, .string ⟨#[]⟩, .int .i64 0, .int .i64 0] 62);have HE0:=G hE0;have HB:=G (hb.ext hE0);have HZ:=G (ai w 62 #[.int .i64 0, .string ⟨#[]⟩, .int .i64 0, .int .i64 0]);have hpr:w.heap.size≠g:=by have:=hb.lt;omega
 have hgp:g≠w.heap.size:=fun e=>hpr e.symm;obtain⟨N,hN⟩: ∃N,ts.length=N:=⟨_,rfl⟩
 rw[hN]at HB
 cases σ with
 |dead p e=>
  obtain⟨rfl,rfl,he⟩:=hm;have he0:(er==0)=false:=beq_eq_false_iff_ne.2 he;have he1:(er !=0)=true:=by rw[bne,he0];rfl
  clear hb ht hn hE0;go_enter func70,ntmps70;go_wp2_with fail;refine am 17 1 [] mixed (by kernel_rfl) trivial ?_;repeat (first|(refine co (by rfl) ?_;simp only[bf,be,bc,a_,a8])|(refine sx ?_ (fun w1 hU=> ?_) ?_;rotate_left;(focus have f1:=(HB.out.ext hU.un).cell;clear hU;go_simp<;>with_reducible rfl);simp only[bf,be,bc,a_,a8]))
  intro w1 hw1 hp;clear hp;simp only[ab,aC];have HZ1:=G (HZ.out.ext hw1.un);have hzc:=HZ1.out.cell;have hzf:=HZ1.out.frozen;have HX:=G (HE0.out.trans hw1.un);clear hw1;go_wp2_with fail;obtain⟨hset,hxx⟩:=rA (.int .i64 0) (.string ⟨#[]⟩) (.int .i64 0) (.int .i64 0) HX.out HZ1.out;simp only[World.setCells,ak,Nat.reduceAdd]at hset hxx;exact bodyPost_ret (v:= .agg #[.int .i64 0, .string ⟨#[]⟩, .int .i64 0, .int .i64 0]) (by simp[results,results70,go_sem,hset]) rfl ⟨rfl,hxx⟩
 |live r=>
  obtain⟨rfl,rfl,hnx,rfl⟩:=hm;by_cases hlt:nx<N
  ·have hlt':nx<ts.length:=by omega
   have hlti:(nx:Int)<N:=by omega
   have hge: ¬(N:Int)<=nx:=by omega
   have hgn: ¬N<=nx:=by omega
   obtain⟨b,off,rfl,hlb,h0,h1,h2,h3⟩:=ht.at_ nx hlt';have hdr:ts.drop nx=ts[nx]::ts.drop (nx+1):=aX hlt';have hhd:(RS.live (ts.drop nx)).hd=ts[nx]:=by rw[hdr];rfl
   rw[hhd];generalize ts[nx]=t at*;obtain⟨tk,tx,tv,tf⟩:=t;simp only at h0 h1 h2 h3;have e0:=(hE0.cell b _ hlb).trans h0;have e1:=(hE0.cell b _ hlb).trans h1;have e2:=(hE0.cell b _ hlb).trans h2;have e3:=(hE0.cell b _ hlb).trans h3;have HT:=G (show b<(w.alloc (.cells #[.int .i64 0, .string ⟨#[]⟩, .int .i64 0, .int .i64 0] 62)).heap.size from an hlb hE0.size);have HC:=G (aq e0 (aq e1 (aq e2 e3)));clear hb ht hn hE0 h0 h1 h2 h3 e0 e1 e2 e3 hdr hhd hlt' hN;go_enter func70,ntmps70;go_wp2_with fail;refine am 17 1 [] mixed (by kernel_rfl) trivial ?_;repeat (first|(refine co (by rfl) ?_;simp only[bf,be,bc,a_,a8])|(refine sx ?_ (fun w1 hU=> ?_) ?_;rotate_left;(focus have f1:=(HB.out.ext hU.un).cell;clear hU;go_simp<;>with_reducible rfl);simp only[bf,be,bc,a_,a8]))
   intro w1 hw1 hp;clear hp;simp only[ab,aC];have HB1:=G (HB.out.ext hw1.un);have HZ1:=G (HZ.out.ext hw1.un);have HX1:=G (HE0.out.trans hw1.un);have HT1:=G (an HT.out hw1.un.size);have HC1:=G (show _/\ _/\ _/\ _ from⟨(hw1.un.cell b _ HT.out).trans HC.out.1,(hw1.un.cell b _ HT.out).trans HC.out.2.1,(hw1.un.cell b _ HT.out).trans HC.out.2.2.1,(hw1.un.cell b _ HT.out).trans HC.out.2.2.2⟩);clear hw1 HB HZ HE0 HT HC;go_wp2_with fail;refine am 10 3 [] mixed (by kernel_rfl) trivial ?_;repeat (refine sx ?_ (fun w1 hU=> ?_) ?_;rotate_left;(focus have f1:=(HB1.out.ext hU.un).cell;have d0:=(hU.un.cell b _ HT1.out).trans HC1.out.1;have d1:=(hU.un.cell b _ HT1.out).trans HC1.out.2.1;have d2:=(hU.un.cell b _ HT1.out).trans HC1.out.2.2.1;have d3:=(hU.un.cell b _ HT1.out).trans HC1.out.2.2.2;clear hU;go_simp<;>with_reducible rfl);simp only[bf,be,bc,a_,a8])
   intro w2 hw2 hp;clear hp;simp only[ab,ap];have HZ2:=G (HZ1.out.ext hw2.un);have hzc:=HZ2.out.cell;have hzf:=HZ2.out.frozen;have HX:=G (HX1.out.trans hw2.un);clear hw2;go_wp2_with fail;obtain⟨hset,hxx⟩:=rA (.int .i64 tk) (.string (ae tx)) (.int .i64 tv) (.int .i64 tf) HX.out HZ2.out;simp only[World.setCells,ak,Nat.reduceAdd]at hset hxx;exact bodyPost_ret (v:= .agg #[.int .i64 tk, .string (ae tx), .int .i64 tv, .int .i64 tf]) (by simp[results,results70,go_sem,hset]) rfl ⟨rfl,hxx⟩
  ·have hnn:nx=N:=by omega
   have hge:(N:Int)<=nx:=by omega
   have hgn:N<=nx:=by omega
   have hhd:(RS.live (ts.drop nx)).hd=zT:=by rw[bq (by omega)];rfl
   rw[hhd];clear hb ht hn hE0 hhd hN;go_enter func70,ntmps70;go_wp2_with fail;refine am 17 1 [] mixed (by kernel_rfl) trivial ?_;repeat (first|(refine co (by rfl) ?_;simp only[bf,be,bc,a_,a8])|(refine sx ?_ (fun w1 hU=> ?_) ?_;rotate_left;(focus have f1:=(HB.out.ext hU.un).cell;clear hU;go_simp<;>with_reducible rfl);simp only[bf,be,bc,a_,a8]))
   intro w1 hw1 hp;clear hp;simp only[ab,aC];have HZ1:=G (HZ.out.ext hw1.un);have hzc:=HZ1.out.cell;have hzf:=HZ1.out.frozen;have HX:=G (HE0.out.trans hw1.un);clear hw1;go_wp2_with fail;obtain⟨hset,hxx⟩:=rA (.int .i64 0) (.string ⟨#[]⟩) (.int .i64 0) (.int .i64 0) HX.out HZ1.out;simp only[World.setCells,ak,Nat.reduceAdd]at hset hxx;exact bodyPost_ret (v:= .agg #[.int .i64 0, .string ⟨#[]⟩, .int .i64 0, .int .i64 0]) (by simp[results,results70,go_sem,hset]) rfl ⟨rfl,hxx⟩
end
section
open Go.RowKit
theorem i_ (g:Nat) (s:List UInt8) (ts:List bB) (σ:RS) (n:Int) (hn0:n≠0) (w:World) (h:QA w g s ts σ):Calls prog 34 #[.pointer (some ⟨g,0,none⟩), .int .i64 n] w fun e w'=>e= .returned (.tuple #[])/\QA w' g s ts (σ.fail s.length n)/\w.grownBy w' (some g):=by
 have hsz:(ae s).size=s.length:=aM s;obtain⟨A,c,nx,at_,er,hb,ht,hn,hm⟩:=h
 cases σ with
 |dead p e=>
  obtain⟨rfl,rfl,he⟩:=hm;have he0:(er==0)=false:=beq_eq_false_iff_ne.2 he;have he1:(er !=0)=true:=by rw[bne,he0];rfl
  have hbc:=hb.cell;have HB:=G hb;have HT:=G ht;have HN:=G hn;clear hb ht hn;go_enter func34,ntmps34;go_wp2_with fail;refine bodyPost_ret (results_none rfl _ _ _) rfl ?_;exact⟨rfl,⟨A,c,nx,at_,er,HB.out,HT.out,HN.out,rfl,rfl,he⟩,(aG _).grownBy _⟩
 |live r=>
  obtain⟨rfl,rfl,hnx,rfl⟩:=hm;obtain⟨N,hN⟩: ∃N,ts.length=N:=⟨_,rfl⟩
  rw[hN]at hb;have hg1:=ah (cg w g 3 (.int .i64 s.length)) (cg (w.setCell ⟨g,3,none⟩ (.int .i64 s.length)) g 4 (.int .i64 n));have hb1:=(hb.set 3 (.int .i64 s.length)).set 4 (.int .i64 n);simp only[aw,aN,aO]at hb1;have ht1:=j0 ht hn hg1 (fun k e=>by injection e with e;omega);have hbc:=hb.cell;have hbf:=hb.frozen;have HB1:=G hb1;have HG1:=G hg1;have HT1:=G ht1;have HN:=G hn;clear hb ht hn hb1 hg1 ht1;by_cases hlt:nx<N
  ·have hlt':nx<ts.length:=by omega
   have hlti:(nx:Int)<N:=by omega
   obtain⟨b,off,rfl,hlb,h0,h1,h2,h3⟩:=HT1.out.at_ nx hlt';have hdr:ts.drop nx=ts[nx]::ts.drop (nx+1):=aX hlt';have HA:=G (show(RS.live (ts.drop nx)).fail s.length n= .dead ts[nx].f n by rw[hdr];rfl);generalize ts[nx]=t at*;obtain⟨tk,tx,tv,tf⟩:=t;simp only at h3 HA;have HC:=G h3;have hbg:=HN.out b off rfl (by intro e;rw[e]at hlt';simp at hlt');have HL:=G hlb;clear h0 h1 h2 h3 hdr hlb;go_enter func34,ntmps34;go_wp2_with fail;clear hbc hbf;refine am 10 2 [] mixed (by kernel_rfl) trivial ?_;repeat (refine sx ?_ (fun w1 hU=> ?_) ?_;rotate_left;(focus have f1:=(HB1.out.ext hU.un).cell;clear hU;go_simp<;>with_reducible rfl);simp only[bf,be,bc,a_,a8])
   intro w2 hw2 hp;clear hp;simp only[ab,aC];have HB2:=G (HB1.out.ext hw2.un);have HG2:=G (ah HG1.out (hw2.un.grownBy (some g)));have HT2:=G (HT1.out.ext hw2.un);have HC2:=G ((hw2.un.cell b _ HL.out).trans HC.out);have HL2:=G (an HL.out hw2.un.size);clear hw2 HB1 HG1 HT1 HC HL;go_wp2_with fail;refine am 14 3 [] mixed (by kernel_rfl) trivial ?_;repeat (refine sx ?_ (fun w1 hU=> ?_) ?_;rotate_left;(focus have f1:=(HB2.out.ext hU.un).cell;have d3:=(hU.un.cell b _ HL2.out).trans HC2.out;clear hU;go_simp<;>with_reducible rfl);simp only[bf,be,bc,a_,a8])
   intro w3 hw3 hp;clear hp;simp only[ab,ap];have hb3:=HB2.out.ext hw3.un;have hbc:=hb3.cell;have hbf:=hb3.frozen;have hs:=cg w3 g 3 (.int .i64 tf);have hb4:=hb3.set 3 (.int .i64 tf);simp only[aw,aN,aO]at hb4;have HB4:=G hb4;have HG4:=G (ah (ah HG2.out (hw3.un.grownBy (some g))) hs);have HT4:=G (j0 (HT2.out.ext hw3.un) HN.out hs (fun k e=>by injection e with e;omega));clear hw3 hb3 hs hb4;go_wp2_with fail
   go_end0
   rw[HA.out];exact⟨rfl,⟨_,c,nx,tf,n,by rw[hN];exact HB4.out,HT4.out,HN.out,rfl,rfl,hn0⟩,HG4.out⟩
  ·have hlti: ¬(nx:Int)<N:=by omega
   have HA:=G (show(RS.live (ts.drop nx)).fail s.length n= .dead s.length n by rw[bq (by omega)];rfl);go_enter func34,ntmps34;go_wp2_with fail;clear hbc hbf;refine am 10 2 [] mixed (by kernel_rfl) trivial ?_;repeat (refine sx ?_ (fun w1 hU=> ?_) ?_;rotate_left;(focus have f1:=(HB1.out.ext hU.un).cell;clear hU;go_simp<;>with_reducible rfl);simp only[bf,be,bc,a_,a8])
   intro w2 hw2 hp;clear hp;simp only[ab,aC];have HB2:=G (HB1.out.ext hw2.un);have HG2:=G (ah HG1.out (hw2.un.grownBy (some g)));have HT2:=G (HT1.out.ext hw2.un);clear hw2 HB1 HG1 HT1;go_wp2_with fail
   go_end0
   rw[HA.out];exact⟨rfl,⟨A,c,nx,s.length,n,by rw[hN];exact HB2.out,HT2.out,HN.out,rfl,rfl,hn0⟩,HG2.out⟩
theorem gT (g:Nat) (s:List UInt8) (ts:List bB) (σ:RS) (x:List UInt8) (w:World) (h:QA w g s ts σ):Calls prog 68 #[.pointer (some ⟨g,0,none⟩), .string (ae x)] w fun e w'=>e= .returned (.bool (σ.is x))/\al w w':=by
 have HN:=G (eZ g s ts σ w h);have HI:=G (show σ.is x=((σ.hd.k==5||σ.hd.k==2)&&σ.hd.t==x)from rfl);clear h;generalize σ.hd=t at*;obtain⟨k,tx,v,f⟩:=t;simp only at HN HI
 cases h5:(k==5)<;>cases h2:(k==2)<;>cases hs:(tx==x);all_goals
  rw[h5,h2,hs]at HI;go_enter func68,ntmps68;go_wp2_with (go_at_call 70;refine HN.out.mono ?_;rintro e w1 ⟨rfl,hE⟩;have HX:=G (hE.alloc' (.cells #[.int .i64 k, .string (ae tx), .int .i64 v, .int .i64 f] 62));clear hE HN);go_ret;exact⟨by rw[HI.out];rfl,HX.out⟩
theorem QA.next {w:World} {g:Nat} {s:List UInt8} {ts r:List bB} {t:bB} (h:QA w g s ts (.live (t::r))): ∃(A:Option Addr) (c nx:Nat),nx<9223372036854775807/\aT w g 89 #[.string (ae s), .slice A ts.length c, .int .i64 nx, .int .i64 0, .int .i64 0]/\
  QA (w.setCell ⟨g,2,none⟩ (.int .i64 ((nx:Int)+1))) g s ts (.live r)/\w.grownBy (w.setCell ⟨g,2,none⟩ (.int .i64 ((nx:Int)+1))) (some g):=by
 obtain⟨A,c,nx,at_,er,hb,ht,hn,rfl,rfl,hnx,hr⟩:=h;have hlt:nx<ts.length:=by
  rcases dB nx ts.length with h|h
  ·exact h
  ·rw[bq h]at hr;cases hr
 have hdr:ts.drop nx=ts[nx]::ts.drop (nx+1):=aX hlt;rw[hdr]at hr;injection hr with h1 h2;have hle:=ht.le;have hmx:=ht.max;have hgs:=cg w g 2 (.int .i64 ((nx:Int)+1));have hb':=hb.set 2 (.int .i64 ((nx:Int)+1));simp only[aw,aN,aO]at hb';refine⟨A,c,nx,by simp only[maxLen]at hmx;omega,hb,⟨A,c,nx+1,0,0,by rw[show((nx+1:Nat):Int)=(nx:Int)+1 by omega];exact hb',j0 ht hn hgs (fun k e=>by injection e with e;omega),hn,rfl,rfl,hlt,h2⟩,hgs⟩
theorem RS.is_cons {x:List UInt8} {σ:RS} (h:σ.is x=true): ∃t r,σ= .live (t::r):=by
 cases σ with
 |dead p e=>rw[dR]at h;cases h
 |live r=>
  cases r with
  |nil=>simp[RS.is,RS.hd,bV,zT]at h
  |cons t r=>exact⟨t,r,rfl⟩
theorem cD (g:Nat) (s:List UInt8) (ts:List bB) (σ:RS) (x:List UInt8) (w:World) (h:QA w g s ts σ):Calls prog 31 #[.pointer (some ⟨g,0,none⟩), .string (ae x)] w fun e w'=>e= .returned (.bool (σ.is x))/\QA w' g s ts (if σ.is x then σ.tail else σ)/\w.grownBy w' (some g):=by
 have HI:=G (gT g s ts σ x w h)
 cases hi:σ.is x with
 |false=>
  rw[hi]at HI;have HP:=G h;clear h;go_enter func31,ntmps31;go_wp2_with (go_at_call 68;refine HI.out.mono ?_;rintro e w1 ⟨rfl,hE⟩;have HX:=G hE;clear hE HI);go_ret;exact⟨rfl,HP.out.ext HX.out,HX.out.grownBy _⟩
 |true=>
  rw[hi]at HI;obtain⟨t,r,rfl⟩:=RS.is_cons hi;have HP:=G h;clear h hi;go_enter func31,ntmps31;go_wp2_with (go_at_call 68;refine HI.out.mono ?_;rintro e w1 ⟨rfl,hE⟩;obtain⟨A,c,nx,hnx,hb,hq,hgs⟩:=(HP.out.ext hE).next;have hbc:=hb.cell;have hbf:=hb.frozen;have hw:wrap64 ((nx:Int)+1)=(nx:Int)+1:=(by simp only[wrap64];omega);have HQ:=G hq;have HG:=G (ah (hE.grownBy _) hgs);clear hE HI hb hq hgs);go_ret;exact⟨rfl,HQ.out,HG.out⟩
theorem eA (g:Nat) (s:List UInt8) (ts:List bB) (σ:RS) (x:List UInt8) (w:World) (h:QA w g s ts σ):Calls prog 71 #[.pointer (some ⟨g,0,none⟩), .string (ae x)] w fun e w'=>e= .returned (.tuple #[])/\QA w' g s ts (σ.want s.length x)/\w.grownBy w' (some g):=by
 have HE:=G (cD g s ts σ x w h);unfold RS.want;clear h
 cases hi:σ.is x with
 |true=>
  rw[hi]at HE;simp only[if_true]at HE⊢;go_enter func71,ntmps71;go_wp2_with (go_at_call 31;refine HE.out.mono ?_;rintro e w1 ⟨rfl,h1,h2⟩;have H1:=G h1;have H2:=G h2;clear h1 h2 HE)
  go_end0
  exact⟨rfl,H1.out,H2.out⟩
 |false=>
  rw[hi]at HE;simp only[aI,if_false]at HE⊢;go_enter func71,ntmps71
  go_wp2_with (first
   |(go_at_call 31;refine HE.out.mono ?_;rintro e w1 ⟨rfl,h1,h2⟩;have H1:=G h1;have H2:=G h2;clear h1 h2 HE)
   |(go_at_call 34;refine(i_ g s ts σ 3 (by decide) _ H1.out).mono ?_;rintro e w2 ⟨rfl,h3,h4⟩;have H3:=G h3;have H4:=G (ah H2.out h4);clear h3 h4 H1))
  go_end0
  exact⟨rfl,H3.out,H4.out⟩
end
section
open Go.RowKit
theorem RS.tail_size {σ:RS} (h:σ.hd.k≠0):σ.size=σ.tail.size+1:=by
 cases σ with
 |dead p e=>exact absurd rfl h
 |live r=>exact fh h
theorem RS.is_size {x:List UInt8} {σ:RS} (h:σ.is x=true):σ.size=σ.tail.size+1:=by
 obtain⟨t,r,rfl⟩:=RS.is_cons h;rfl
theorem RS.want_size (en:Int) (x:List UInt8) (σ:RS):(σ.want en x).size<=σ.size:=by
 unfold RS.want;split
 ·rename_i h;have:=RS.is_size h;omega
 ·cases σ<;>simp[RS.fail,RS.size]
theorem mG (en:Int): ∀(f:Nat),
  (∀n σ,(br en f n σ).2.size<=σ.size)/\(∀n x σ,(gD en f n x σ).2.size<=σ.size)/\(∀σ,(cW en f σ).2.size<=σ.size)/\
  (∀nm σ,(gC en f nm σ).2.size<=σ.size)/\(∀σ,(ef en f σ).2.size<=σ.size)/\(∀acc σ,(fc en f acc σ).2.size<=σ.size)
 |0=>by refine⟨fun _ _=> ?_,fun _ _ _=> ?_,fun _=> ?_,fun _ _=> ?_,fun _=> ?_,fun _ _=> ?_⟩<;>simp[br,gD,cW,gC,ef,fc]
 |f+1=>by
  obtain⟨iE,iL,iP,iN,iA,iB⟩:=mG en f;refine⟨fun n σ=> ?_,fun n x σ=> ?_,fun σ=> ?_,fun nm σ=> ?_,fun σ=> ?_,fun acc σ=> ?_⟩
  ·rw[br];exact aS (iL _ _ _) (iP _)
  ·rw[gD];split
   ·rename_i h;have:=RS.tail_size (σ:=σ) (by rw[h.1];decide);have:=iE (eW σ.hd.t+1) σ.tail;have:=iL n (Ex.mk 7 σ.hd.t [] [] 0 [x,(br en f (eW σ.hd.t+1) σ.tail).1]) (br en f (eW σ.hd.t+1) σ.tail).2;omega
   ·exact ag _
  ·rw[cW];split
   ·rename_i h;have:=RS.tail_size (σ:=σ) (by rw[h];decide);show σ.tail.size<=_;omega
   split
   ·rename_i h;have:=RS.tail_size (σ:=σ) (by rw[h];decide);show σ.tail.size<=_;omega
   split
   ·rename_i h;have:=RS.tail_size (σ:=σ) (by rw[h];decide);have:=iN σ.hd.t σ.tail;omega
   split
   ·rename_i h;have:=RS.is_size h;have h1:=RS.want_size en eg (br en f 1 σ.tail).2;have:=iE 1 σ.tail;show(RS.want en eg (br en f 1 σ.tail).2).size<=_;omega
   split
   ·rename_i h;have:σ.size=σ.tail.size+1:=by rw[cx]at h;rcases h with h|h<;>exact RS.is_size h
    have:=iP σ.tail;show(cW en f σ.tail).2.size<=_;omega
   ·cases σ<;>simp[RS.fail,RS.size]
  ·rw[gC];split
   ·rename_i h;have:=RS.is_size h;have h1:=RS.want_size en jq (br en f 1 σ.tail).2;have:=iE 1 σ.tail;show(RS.want en jq (br en f 1 σ.tail).2).size<=_;omega
   split
   ·rename_i h;have:=RS.is_size h;have:=iA σ.tail;show(ef en f σ.tail).2.size<=_;omega
   ·exact ag _
  ·rw[ef];split
   ·rename_i h;have:=RS.is_size h;show σ.tail.size<=_;omega
   ·exact iB _ _
  ·rw[fc];split
   ·exact ag _
   split
   ·rename_i h;have:=RS.is_size h;have:=iE 1 σ;have:=iB (acc++[(br en f 1 σ).1]) (br en f 1 σ).2.tail;omega
   ·have:=RS.want_size en eg (br en f 1 σ).2;have:=iE 1 σ;show(RS.want en eg (br en f 1 σ).2).size<=_;omega
def sd (g:Nat) (s:List UInt8) (ts:List bB) (w:World) (y:Ex×RS) (e:Ending) (w':World):Prop:=
 w.grownBy w' (some g)/\QA w' g s ts y.2/\ ∃A n c,e= .returned (.agg #[.int .i64 y.1.k, .string (ae y.1.op), .string (ae y.1.nm), .string (ae y.1.tx), .int .i64 y.1.v, .slice A n c])/\bZ w' (fun b=>w.heap.size<=b) (.slice A n c) y.1.args
def iM (f:Nat):Prop:= ∀(n:Int) (σ:RS) (s:List UInt8) (ts:List bB) (w:World) (g:Nat),QA w g s ts σ->1<=n->n<=7->4*σ.size+2<=f->Calls prog 143 #[.pointer (some ⟨g,0,none⟩), .int .i64 n] w (sd g s ts w (br s.length f n σ))
def qG (f:Nat):Prop:= ∀(σ:RS) (s:List UInt8) (ts:List bB) (w:World) (g:Nat),QA w g s ts σ->4*σ.size+1<=f->Calls prog 158 #[.pointer (some ⟨g,0,none⟩)] w (sd g s ts w (cW s.length f σ))
def se (f:Nat):Prop:= ∀(nm:List UInt8) (σ:RS) (s:List UInt8) (ts:List bB) (w:World) (g:Nat),QA w g s ts σ->4*σ.size+1<=f->Calls prog 173 #[.pointer (some ⟨g,0,none⟩), .string (ae nm)] w (sd g s ts w (gC s.length f nm σ))
def Ak (g:Nat) (s:List UInt8) (ts:List bB) (w:World) (y:List Ex×RS) (e:Ending) (w':World):Prop:=
 w.grownBy w' (some g)/\QA w' g s ts y.2/\ ∃A n c,e= .returned (.slice A n c)/\bZ w' (fun b=>w.heap.size<=b) (.slice A n c) y.1
theorem wN:jw prog 47 49 6 88 (.agg #[.int .i64 0, .string ⟨#[]⟩, .string ⟨#[]⟩, .string ⟨#[]⟩, .int .i64 0, .slice none 0 0]):=⟨underlying47,by kernel_rfl,by rfl,by decide⟩
def qN (g:Nat) (w:World):Nat:=match w.cell? ⟨g,4,none⟩,w.cell? ⟨g,1,none⟩,w.cell? ⟨g,2,none⟩with
 |some (.int _ e),some (.slice _ n _),some (.int _ k)=>if e=0 then n-k.toNat else 0
 | _,_,_=>0
theorem QA.qN {w:World} {g:Nat} {s:List UInt8} {ts:List bB} {σ:RS} (h:QA w g s ts σ):qN g w=σ.size:=by
 obtain⟨A,c,nx,at_,er,hb,ht,hn,hm⟩:=h;unfold YtelplgkppalmfaaGreatDoor.qN;rw[hb.cell,hb.cell,hb.cell]
 cases σ with
 |dead p e=>
  obtain⟨_,rfl,he⟩:=hm;show(if er=0 then ts.length-(nx:Int).toNat else 0)=0;rw[if_neg he]
 |live r=>
  obtain⟨_,rfl,hnx,rfl⟩:=hm;show(if(0:Int)=0 then ts.length-(nx:Int).toNat else 0)=(ts.drop nx).length;rw[if_pos rfl,aZ];omega
theorem QA.cells {w:World} {g:Nat} {s:List UInt8} {ts:List bB} {σ:RS} (h:QA w g s ts σ): ∃er:Int,w.cell? ⟨g,4,none⟩=some (.int .i64 er)/\((er==0)= !σ.isD):=by
 obtain⟨A,c,nx,at_,er,hb,ht,hn,hm⟩:=h;refine⟨er,hb.cell 4,?_⟩
 cases σ with
 |dead p e=>
  obtain⟨_,rfl,he⟩:=hm;exact beq_eq_false_iff_ne.2 he
 |live r=>
  obtain⟨_,rfl,_⟩:=hm;rfl
theorem mF (f:Nat) (hff:f<=400000) (hE: ∀i,i<=f->iM i) (σ:RS) (s:List UInt8) (ts:List bB) (w:World) (g:Nat) (h:QA w g s ts σ) (hf:4*σ.size+4<=f+1):Calls prog 145 #[.pointer (some ⟨g,0,none⟩)] w (Ak g s ts w (ef s.length (f+1) σ)):=by
 have HG:=G (cD g s ts σ eg w h);have hgl:=h.lt;clear h
 cases hrp:σ.is eg with
 |true=>
  rw[hrp]at HG;simp only[if_true]at HG;have HR:=G (show ef s.length (f+1) σ=([],σ.tail)from by rw[ef,if_pos hrp]);go_enter func145,ntmps145;go_wp2_with (go_at_call 31;refine HG.out.mono ?_;rintro e w1 ⟨rfl,h1,h2⟩;have H1:=G h1;have H2:=G h2;clear h1 h2 HG);go_ret;rw[HR.out];exact⟨H2.out,H1.out,none,0,0,rfl, .nil _ _⟩
 |false=>
  rw[hrp]at HG;simp only[aI,if_false]at HG;have HR:=G (show ef s.length (f+1) σ=fc s.length f [] σ from by rw[ef,if_neg (by rw[hrp];simp)]);have hf':4*σ.size+3<=f:=by omega
  go_enter func145,ntmps145;go_wp2_with (go_at_call 31;refine HG.out.mono ?_;rintro e w1 ⟨rfl,h1,h2⟩;have H1:=G h1;have H2:=G h2;clear h1 h2 HG)
  go_loopw [3] (fun vo wr=> ∃(k:Nat) (acc:List (Ex×Value)) (τ:RS) (C:Option Addr) (n cap:Nat),vo= .slice C n cap/\acc.length=n/\4*τ.size+3<=k/\k<=f/\n+τ.size<=σ.size+1/\(τ.isD=true\/n+τ.size<=σ.size)/\Hid (fc s.length k (acc.map (·.1)) τ=ef s.length (f+1) σ)/\Hid (QA wr g s ts τ)/\
   Hid (eV wr w.heap.size 49 (.slice C n cap) acc)/\Hid (w.grownBy wr (some g))) (fun vo wr=>qN g wr)
  case atStart=>exact⟨f,[],σ,none,0,0,rfl,rfl,hf',ag _,by omega, .inr (by omega),G HR.out.symm,H1,G (kg _ _ _),H2⟩
  case round=>
   obtain⟨k,acc,τ,C,n,cap,rfl,hn,hk,hkf,hnl,hnl2,HRes,HPr,HOr,HGr⟩:=hrel;obtain⟨k,rfl⟩: ∃k',k=k'+1:=⟨k-1,by omega⟩
   obtain⟨er,hec,hed⟩:=HPr.out.cells
   have HSt:=G (show fc s.length (k+1) (acc.map (·.1)) τ=if τ.isD then([],τ)else if(br s.length k 1 τ).2.is kh then fc s.length k (acc.map (·.1)++[(br s.length k 1 τ).1]) (br s.length k 1 τ).2.tail
    else(acc.map (·.1)++[(br s.length k 1 τ).1],(br s.length k 1 τ).2.want s.length eg)from by rw[fc])
   cases hd:τ.isD with
   |true=>
    rw[hd]at hed;have HRR:=G (show ef s.length (f+1) σ=([],τ)from by rw[<-HRes.out,HSt.out,if_pos hd]);go_wp2_with fail;go_ret;rw[HRR.out];exact⟨HGr.out,HPr.out,none,0,0,rfl, .nil _ _⟩
   |false=>
    rw[hd]at hed;have hnl3:n+τ.size<=σ.size:=hnl2.elim (fun h=>by rw[hd]at h;cases h) (fun h=>h)
    have HS2:=G (show ef s.length (f+1) σ=if(br s.length k 1 τ).2.is kh then fc s.length k (acc.map (·.1)++[(br s.length k 1 τ).1]) (br s.length k 1 τ).2.tail
     else(acc.map (·.1)++[(br s.length k 1 τ).1],(br s.length k 1 τ).2.want s.length eg)from by rw[<-HRes.out,HSt.out,if_neg (by rw[hd];simp)])
    have HEx:=G (hE k (by omega) 1 τ s ts wr g HPr.out (by decide) (by decide) (by omega));have hsz:=(mG s.length k).1 1 τ;clear HRes HSt;generalize br s.length k 1 τ=y at*;obtain⟨x,τ2⟩:=y;simp only at HS2 HEx hsz
    cases hcm:τ2.is kh with
    |false=>
     have HRR:=G (show ef s.length (f+1) σ=(acc.map (·.1)++[x],τ2.want s.length eg)from by rw[HS2.out,if_neg (by rw[hcm];simp)]);go_wp2_with (first|(go_at_call 143;refine HEx.out.mono ?_;rintro e w3 ⟨hG,hPA,A1,n1,c1,rfl,hR⟩;have hE3:=O w3 (.cells #[.int .i64 x.k, .string (ae x.op), .string (ae x.nm), .string (ae x.tx), .int .i64 x.v, .slice A1 n1 c1] 49);have hzr:=HGr.out.size;have hzg:=hG.size;have HG3:=G (ah (ah HGr.out hG) (hE3.grownBy (some g)));have hrow:=aJ HOr.out.1;have hrw:=fun k hk=>(hrow k hk).1;have HO3:=G ((HOr.out.grown hG (fun k e=>by injection e with e;omega)).ext hE3);have HA3:=G (hR.keep (.of_ext hE3) (Q:=fun b=>w.heap.size<=b/\some b≠Value.ownBlock (.slice C n cap)) (fun b hb _=>⟨by omega,fun e=>by have:=(hrow b e.symm).2;omega⟩));have HP3:=G (hPA.ext hE3);have HN3:=G (ai w3 49 #[.int .i64 x.k, .string (ae x.op), .string (ae x.nm), .string (ae x.tx), .int .i64 x.v, .slice A1 n1 c1]);clear hG hPA hR hE3 hrow HEx)|(at_builtin;refine cQ wN rfl _ _ rfl w.heap.size _ n (fe acc) rfl (by have:=HO3.out.1;rw[hn]at this;exact this) w3.heap.size (qK x (.slice A1 n1 c1)) rfl HN3.out rfl (ld _ _ _ _) (by omega) (by decide) HG3.out.size ?_;intro A' cap' w4 hq1 hq2 hq3;have HO4:=G (HO3.out.snocK HA3.out hn hq1 (.of_grown hq2 fun b hb=>hb.2) hq3);have HG4:=G (show w.grownBy w4 (some g)from⟨hq2.os.trans HG3.out.os,hq2.tape.trans HG3.out.tape,hq2.output.trans HG3.out.output,aS HG3.out.size hq2.size,fun i hi hne=>(hq2.block i (an hi HG3.out.size) (fun e=>by have:=hrw i e.symm;omega)).trans (HG3.out.block i hi hne)⟩);have HP4:=G (HP3.out.grown hq2 (fun k e=>by have:=hrw k e;omega));clear hq1 hq2 hq3)|(go_at_call 31;refine(cD g s ts τ2 kh _ HP4.out).mono ?_;rw[hcm];simp only[aI,if_false];rintro e w5 ⟨rfl,h1,h2⟩;have HP5:=G h1;have HG5:=G (ah HG4.out h2);have HO5:=G (HO4.out.grown h2 (fun k e=>by injection e with e;omega));clear h1 h2 HP4)|(go_at_call 71;refine(eA g s ts τ2 eg _ HP5.out).mono ?_;rintro e w6 ⟨rfl,h1,h2⟩;have HP6:=G h1;have HG6:=G (ah HG5.out h2);have HO6:=G (HO5.out.grown h2 (fun k e=>by injection e with e;omega));clear h1 h2));go_ret;rw[HRR.out];exact⟨HG6.out,HP6.out,_,_,_,rfl,by have:=HO6.out.rd;simpa using this⟩
    |true=>
     have HRN:=G (show fc s.length k (acc.map (·.1)++[x]) τ2.tail=ef s.length (f+1) σ from by rw[HS2.out,if_pos hcm]);have hts:=RS.is_size hcm;go_wp2_with (first|(go_at_call 143;refine HEx.out.mono ?_;rintro e w3 ⟨hG,hPA,A1,n1,c1,rfl,hR⟩;have hE3:=O w3 (.cells #[.int .i64 x.k, .string (ae x.op), .string (ae x.nm), .string (ae x.tx), .int .i64 x.v, .slice A1 n1 c1] 49);have hzr:=HGr.out.size;have hzg:=hG.size;have HG3:=G (ah (ah HGr.out hG) (hE3.grownBy (some g)));have hrow:=aJ HOr.out.1;have hrw:=fun k hk=>(hrow k hk).1;have HO3:=G ((HOr.out.grown hG (fun k e=>by injection e with e;omega)).ext hE3);have HA3:=G (hR.keep (.of_ext hE3) (Q:=fun b=>w.heap.size<=b/\some b≠Value.ownBlock (.slice C n cap)) (fun b hb _=>⟨by omega,fun e=>by have:=(hrow b e.symm).2;omega⟩));have HP3:=G (hPA.ext hE3);have HN3:=G (ai w3 49 #[.int .i64 x.k, .string (ae x.op), .string (ae x.nm), .string (ae x.tx), .int .i64 x.v, .slice A1 n1 c1]);clear hG hPA hR hE3 hrow HEx)|(at_builtin;refine cQ wN rfl _ _ rfl w.heap.size _ n (fe acc) rfl (by have:=HO3.out.1;rw[hn]at this;exact this) w3.heap.size (qK x (.slice A1 n1 c1)) rfl HN3.out rfl (ld _ _ _ _) (by omega) (by decide) HG3.out.size ?_;intro A' cap' w4 hq1 hq2 hq3;have HO4:=G (HO3.out.snocK HA3.out hn hq1 (.of_grown hq2 fun b hb=>hb.2) hq3);have HG4:=G (show w.grownBy w4 (some g)from⟨hq2.os.trans HG3.out.os,hq2.tape.trans HG3.out.tape,hq2.output.trans HG3.out.output,aS HG3.out.size hq2.size,fun i hi hne=>(hq2.block i (an hi HG3.out.size) (fun e=>by have:=hrw i e.symm;omega)).trans (HG3.out.block i hi hne)⟩);have HP4:=G (HP3.out.grown hq2 (fun k e=>by have:=hrw k e;omega));clear hq1 hq2 hq3)|(go_at_call 31;refine(cD g s ts τ2 kh _ HP4.out).mono ?_;rw[hcm];simp only[if_true];rintro e w5 ⟨rfl,h1,h2⟩;have HP5:=G h1;have HG5:=G (ah HG4.out h2);have HO5:=G (HO4.out.grown h2 (fun k e=>by injection e with e;omega));clear h1 h2 HP4));go_roundw
     case rel=>exact⟨k,acc++[(x, .slice A1 n1 c1)],τ2.tail,some ⟨A',0,none⟩,n+1,cap',rfl,by simp[hn],by omega,by omega,by omega, .inr (by omega),G (by simpa using HRN.out),HP5,HO5,HG5⟩
     case measure=>rw[HPr.out.qN,HP5.out.qN];omega
def dm:=@RS.is_size
def gZ:=@RS.want_size
def nh:=@RS.is_cons
end
end Go.Proofs.YtelplgkppalmfaaGreatDoor
