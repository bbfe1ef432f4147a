/-
  Parts of the proof: OpenP CpA.
-/
import Derived.Test.YtddomeddabfinaaGreatDoorTu00
import Derived.LaidLaws
import Derived.LaidHandle
import Derived.Handed
import Derived.Lay
import Derived.LaidOnce
import Derived.MakeChecks
import Derived.SevenTiedAt
import Derived.Lib.LaidU8
import Derived.Test.YtddomeddabfinaaGreatDoorTu33
import Derived.Test.YtddomeddabfinaaGreatDoorTie
import Derived.Test.YtddomeddabfinaaGreatDoorCards
import Derived.Test.YtddomeddabfinaaGreatDoorTu35
import Derived.BigRegion
import Derived.WalkLawsBesides
import Derived.Test.YtddomeddabfinaaGreatDoorTu15
set_option maxRecDepth 100000
set_option maxHeartbeats 8000000
set_option linter.unusedVariables false
set_option linter.unusedSimpArgs false
set_option linter.unusedSectionVars false
namespace Go.Proofs.YtddomeddabfinaaGreatDoor
open Go.Proofs.Tryz
section
open Go.Joins Go.ChangeShapes Go.WideShapes Go.ChangeAt Go.RowKit Go.Deep
theorem ka (s:ByteArray):ag s.data.toList=s:=by
 apply ic;simp[ag]
section
variable {H:Type} {enc:TypeId×Value->H} {P:Program} {W:World}
theorem iv {t e:TypeId} {fuel:Nat} {base:Nat} {sp:Nat->Bool} {hd:Bool} {c:Value} {y:DataW H×List MemPlace} (ht:P.underlying t=some (.slice e)) (h:DataW.trod enc P W base sp hd fuel t [c]=some y):
  c= .slice none 0 0\/ ∃(a:Addr) (len cap n:Nat) (elems:List (DataW H×List MemPlace)) (rest:List (DataW H)),fuel=n+1/\c= .slice (some a) len cap/\len<=cap/\cap<=maxLen/\elems.length=len/\y.1= .slice (elems.map (·.1)) rest/\
   ∀i (hi:i<elems.length),∃cs',(∀k,k<P.cellsOf e->W.cell? ((a.add (i*P.cellsOf e)).add k)=cs'[k]?)/\cs'.length=P.cellsOf e/\DataW.trod enc P W base sp hd n e cs'=some elems[i]:=by
 rcases DataW.trod_slice ht h with⟨hcs,_⟩|⟨a,len,cap,elems,rest,n,hf,hcs,hx,hb,hl,hm,hlen,hel,_,_⟩
 ·injection hcs with hcs;exact .inl hcs
 ·injection hcs with hcs;refine .inr ⟨a,len,cap,n,elems,rest.map (·.1),hf,hcs,hl,hm,hlen,by rw[hx],fun i hi=> ?_⟩;have key:=hel i (by omega);rw[aN hi]at key;obtain⟨cs',h1,h2⟩:=Option.bind_eq_some_iff.1 key;obtain⟨_,h3,h4⟩:=World.cells?_some h1;exact⟨cs',fun k hk=>h4 k hk,h3,h2⟩
theorem g7 {t:TypeId} {fs:Array Field} {fuel:Nat} {base:Nat} {sp:Nat->Bool} {hd:Bool} {cs:List Value} {y:DataW H×List MemPlace} (ht:P.underlying t=some (.struct fs)) (h:DataW.trod enc P W base sp hd fuel t cs=some y):
  ∃(n:Nat) (xs:List (DataW H×List MemPlace)),fuel=n+1/\cs.length=P.cellsOf t/\y.1= .agg (xs.map (·.1))/\xs.length=fs.size/\ ∀(i:Nat) (f:Field),fs[i]? =some f-> ∃y',xs[i]? =some y'/\DataW.trod enc P W base sp hd n f.type ((cs.drop f.offset).take (P.cellsOf f.type))=some y':=by
 obtain⟨xs,n,hf,hx,hl,hs,hg⟩:=DataW.trod_struct ht h;refine⟨n,xs,hf,hl,by rw[hx],hs,fun i f hi=> ?_⟩;have hlt:i<fs.size:=(Array.getElem?_eq_some_iff.1 hi).1;refine⟨_,aN (by omega),?_⟩;rw[hg i f hi,aN (by omega)]
theorem iI {α:Type} (wt:α->Nat): ∀(elems:List (DataW H×List MemPlace)) (g:Nat->α),(∀i (h:i<elems.length),wt (g i)<=Rows.uptoBulk elems[i].1)->(((List.range elems.length).map g).map wt).sum<=Rows.uptoBulkAll (elems.map (·.1))
 | [],g,_=>by simp[Rows.uptoBulkAll]
 |y::r,g,h=>by
  have h0:=h 0 (by simp);have h1:=iI wt r (fun i=>g (i+1)) (fun i hi=>by have:=h (i+1) (by simpa using hi);simpa using this);rw[ac,iO];simp only[bI,dx,eO,Rows.uptoBulkAll]at h0 h1⊢;simp only[aE]at h0;have:(List.map (wt ∘ g ∘ Nat.succ) (List.range r.length)).sum=(List.map (wt ∘ fun i=>g (i+1)) (List.range r.length)).sum:=rfl;omega
theorem ry: ∀l:List Ex,gt l=(l.map Ex.wt).sum
 | []=>rfl
 |x::r=>by rw[gt,ry r];rfl
theorem rx: ∀l:List St,dq l=(l.map St.wt).sum
 | []=>rfl
 |x::r=>by rw[dq,rx r];rfl
theorem gQ (elems:List (DataW H×List MemPlace)) (rest:List (DataW H)):Rows.uptoBulkAll (elems.map (·.1))+1<=Rows.uptoBulk (DataW.slice (elems.map (·.1)) rest):=by
 simp only[Rows.uptoBulk];omega
theorem wb (l:List UInt8):Rows.uptoBulk (DataW.lit (H:=H) (.string l))=l.length+1:=by simp[Rows.uptoBulk]
theorem eA (d:DataW H):1<=Rows.uptoBulk d:=by
 cases d with
 |lit l=>cases l<;>simp[Rows.uptoBulk]
 |nil=>simp[Rows.uptoBulk]
 |ptr d=>simp[Rows.uptoBulk]
 |slice elems spare=>simp[Rows.uptoBulk]
 |agg parts=>simp[Rows.uptoBulk]
 |iface t d=>simp[Rows.uptoBulk]
 |map entries=>simp[Rows.uptoBulk]
 |held h=>simp[Rows.uptoBulk]
theorem oU (b o n k:Nat):((Addr.mk b o none).add n).add k=⟨b,o+n+k,none⟩:=by rw[Addr.add_lit,Addr.add_lit]
instance:Inhabited Ex:=⟨.mk 0 [] [] [] 0 []⟩
instance:Inhabited SV:=⟨⟨.mk 0 [] [] [] [], .nilIface, .nilIface, .nilIface⟩⟩
instance:Inhabited FV:=⟨⟨⟨[],[],[]⟩, .nilIface, .nilIface⟩⟩
instance:Inhabited Vr:=⟨⟨[],0⟩⟩
def vJ (W:World) (b:Nat):Prop:=b<W.heap.size
theorem tg {base fuel:Nat} {hd:Bool} {sp:Nat->Bool} {c:Value} {y:DataW H×List MemPlace} (h:DataW.trod enc prog W base sp hd fuel 56 [c]=some y): ∃l,j7 W (vJ W) c l/\(l.map fun s=>s.length+1).sum+1<=Rows.uptoBulk y.1:=by
 have c1:prog.cellsOf 9=1:=by kernel_rfl
 rcases iv underlying56 h with rfl|⟨a,len,cap,n,elems,rest,rfl,rfl,hl,hm,hlen0,hy,hx⟩
 ·exact⟨[],⟨none,0,rfl, .inl rfl⟩,eA _⟩
 ·rw[c1]at hx;have key: ∀i,i<len-> ∃s:List UInt8,W.cell? (a.add (i*1))=some (.string (ag s))/\ ∀hi:i<elems.length,s.length+1<=Rows.uptoBulk (elems[i]'hi).1:=fun i hi=>by
   have hie:i<elems.length:=by omega
   obtain⟨cs',h1,h2,h3⟩:=hx i hie
   match cs',h2 with
   | [u],_=>
    obtain⟨s,e1,e2,_⟩:=DataW.trod_string underlying9 h3;injection e1 with e1;have:=h1 0 (by omega);refine⟨s.data.toList,?_,fun hi=> ?_⟩
    ·rw[ka,<-e1];simpa[Addr.add]using this
    ·rw[e2];exact Nat.le_of_eq (wb _).symm
  obtain⟨f,hf⟩:=choose_lt (α:=List UInt8) key;have hlen:((List.range len).map f).length=len:=by simp
  have hbk:(((List.range len).map f).map fun s=>s.length+1).sum+1<=Rows.uptoBulk y.1:=by
   have h1:=iI (fun s:List UInt8=>s.length+1) elems f (fun i hi=>(hf i (by omega)).2 hi);rw[hlen0]at h1;have h2:=gQ elems rest;rw[hy];omega
  by_cases h0:len=0
  ·subst h0;exact⟨[],⟨some a,cap,rfl, .inl rfl⟩,eA _⟩
  ·obtain⟨b,off,spot⟩:=a;have q1:=(hf 0 (by omega)).1;have hspot:spot=none:=by simpa[Addr.add]using World.cell?_spot q1
   subst hspot;refine⟨(List.range len).map f,⟨_,cap,by rw[hlen], .inr ⟨by omega,hm,b,off,rfl,?_,?_,fun i hi=> ?_⟩⟩,hbk⟩
   ·have:=World.block_lt_of_cell? _ _ q1;simpa[Addr.add,vJ]using this
   ·have:=World.block_lt_of_cell? _ _ q1;simpa[Addr.add]using this
   ·rw[hlen]at hi;have:=(hf i hi).1;rw[Addr.add_lit]at this;simpa using this
theorem mw {base:Nat} {hd:Bool} {sp:Nat->Bool}: ∀(N fuel:Nat),fuel<=N-> ∀{c:Value} {y:DataW H×List MemPlace},DataW.trod enc prog W base sp hd fuel 64 [c]=some y-> ∃l,b8 W (vJ W) c l/\gt l+1<=Rows.uptoBulk y.1
 |0,fuel,hN,c,y,h=>by
  obtain rfl:fuel=0:=by omega
  simp[DataW.trod]at h
 |N+1,fuel,hN,c,y,h=>by
  have c0:prog.cellsOf 75=6:=by kernel_rfl
  have cI:prog.cellsOf 3=1:=by kernel_rfl
  have cS:prog.cellsOf 9=1:=by kernel_rfl
  have cE:prog.cellsOf 64=1:=by kernel_rfl
  rcases iv underlying64 h with rfl|⟨a,len,cap,n,elems,rest,rfl,rfl,hl,hm,hlen0,hy,hx⟩
  ·exact⟨[], .nil _ _,eA _⟩
  ·rw[c0]at hx;have key: ∀i,i<len-> ∃p:Ex×Value,(∀k,k<6->W.cell? ((a.add (i*6)).add k)=(tQ p.1 p.2)[k]?)/\b8 W (vJ W) p.2 p.1.args/\ ∀hi:i<elems.length,Ex.wt p.1<=Rows.uptoBulk (elems[i]'hi).1:=fun i hi=>by
    have hie:i<elems.length:=by omega
    obtain⟨cs',h1,h2,h3⟩:=hx i hie
    match cs',h2 with
    | [u0,u1,u2,u3,u4,u5],_=>
     obtain⟨m,xs,rfl,_,hyx,hxl,hf⟩:=g7 underlying75 h3;obtain⟨y0,j0,k0⟩:=hf 0 _ rfl;have k0:DataW.trod enc prog W base sp hd m 3 [u0]=some y0:=by simpa[cI]using k0
     obtain⟨y1,j1,k1⟩:=hf 1 _ rfl;have k1:DataW.trod enc prog W base sp hd m 9 [u1]=some y1:=by simpa[cS]using k1
     obtain⟨y2,j2,k2⟩:=hf 2 _ rfl;have k2:DataW.trod enc prog W base sp hd m 9 [u2]=some y2:=by simpa[cS]using k2
     obtain⟨y3,j3,k3⟩:=hf 3 _ rfl;have k3:DataW.trod enc prog W base sp hd m 9 [u3]=some y3:=by simpa[cS]using k3
     obtain⟨y4,j4,k4⟩:=hf 4 _ rfl;have k4:DataW.trod enc prog W base sp hd m 3 [u4]=some y4:=by simpa[cI]using k4
     obtain⟨y5,j5,k5⟩:=hf 5 _ rfl;have k5:DataW.trod enc prog W base sp hd m 64 [u5]=some y5:=by simpa[cE]using k5
     obtain⟨z0,rfl,_⟩:=hZ underlying3 k0;obtain⟨s1,e1,d1,_⟩:=DataW.trod_string underlying9 k1;injection e1 with e1;have e1:u1= .string (ag s1.data.toList):=by rw[ka];exact e1
     subst e1;obtain⟨s2,e2,d2,_⟩:=DataW.trod_string underlying9 k2;injection e2 with e2;have e2:u2= .string (ag s2.data.toList):=by rw[ka];exact e2
     subst e2;obtain⟨s3,e3,d3,_⟩:=DataW.trod_string underlying9 k3;injection e3 with e3;have e3:u3= .string (ag s3.data.toList):=by rw[ka];exact e3
     subst e3;obtain⟨z4,rfl,_⟩:=hZ underlying3 k4;obtain⟨l5,r5,w5⟩:=mw N m (by omega) k5
     obtain⟨x0,x1,x2,x3,x4,x5,rfl⟩: ∃x0 x1 x2 x3 x4 x5,xs=[x0,x1,x2,x3,x4,x5]:=(by
      match xs,hxl with
      | [x0,x1,x2,x3,x4,x5],_=>exact⟨x0,x1,x2,x3,x4,x5,rfl⟩)
     obtain rfl:x0=y0:=by simpa using j0
     obtain rfl:x1=y1:=by simpa using j1
     obtain rfl:x2=y2:=by simpa using j2
     obtain rfl:x3=y3:=by simpa using j3
     obtain rfl:x4=y4:=by simpa using j4
     obtain rfl:x5=y5:=by simpa using j5
     refine⟨(.mk z0 s1.data.toList s2.data.toList s3.data.toList z4 l5,u5),h1,r5,fun hi=> ?_⟩;rw[hyx];simp only[bI,dw,Rows.uptoBulk,Rows.uptoBulkAll,d1,d2,d3];have h0:=eA x0.1;have h4:=eA x4.1;simp only[Ex.wt,Rows.uptoBulk];omega
   obtain⟨f,hf⟩:=choose_lt (α:=Ex×Value) key;have hbk:gt ((List.range len).map fun i=>(f i).1)+1<=Rows.uptoBulk y.1:=by
    have h1:=iI (fun p:Ex×Value=>Ex.wt p.1) elems f (fun i hi=>(hf i (by omega)).2.2 hi);rw[hlen0]at h1;have h2:=gQ elems rest;rw[hy];rw[ry,dx];rw[dx]at h1;have:(List.map (Ex.wt ∘ fun i=>(f i).1) (List.range len)).sum=(List.map ((fun p:Ex×Value=>p.1.wt) ∘ f) (List.range len)).sum:=rfl;omega
   by_cases h0:len=0
   ·subst h0;exact⟨[], .nil _ _,eA _⟩
   ·obtain⟨b,off,spot⟩:=a;have q1:=(hf 0 (by omega)).1 0 (by omega);have hspot:spot=none:=by simpa[Addr.add]using World.cell?_spot (show _=some _ from q1)
    subst hspot;have hlt:b<W.heap.size:=by
     have:=World.block_lt_of_cell? _ _ (show _=some _ from q1);simpa[Addr.add]using this
    refine⟨(List.range len).map fun i=>(f i).1, .row b off len cap _ (fun i=>(f i).2) hlt hlt (by simp) hl hm (fun i hi=> ?_) (fun i hi=> ?_),hbk⟩
    ·have hi':i<len:=by simpa using hi
     have g:=(hf i hi').1;have g0:=g 0 (by omega);have g1:=g 1 (by omega);have g2:=g 2 (by omega);have g3:=g 3 (by omega);have g4:=g 4 (by omega);have g5:=g 5 (by omega);rw[oU]at g0 g1 g2 g3 g4 g5;simpa[tQ]using⟨g0,g1,g2,g3,g4,g5⟩
    ·have hi':i<len:=by simpa using hi
     simpa using(hf i hi').2.1
theorem kf {base:Nat} {hd:Bool} {sp:Nat->Bool}: ∀(N fuel:Nat),fuel<=N-> ∀{c:Value} {y:DataW H×List MemPlace},DataW.trod enc prog W base sp hd fuel 61 [c]=some y-> ∃l,cM W (vJ W) c l/\dq l+1<=Rows.uptoBulk y.1
 |0,fuel,hN,c,y,h=>by
  obtain rfl:fuel=0:=by omega
  simp[DataW.trod]at h
 |N+1,fuel,hN,c,y,h=>by
  have c0:prog.cellsOf 66=5:=by kernel_rfl
  have cI:prog.cellsOf 3=1:=by kernel_rfl
  have cS:prog.cellsOf 9=1:=by kernel_rfl
  have cE:prog.cellsOf 64=1:=by kernel_rfl
  have cB:prog.cellsOf 61=1:=by kernel_rfl
  rcases iv underlying61 h with rfl|⟨a,len,cap,n,elems,rest,rfl,rfl,hl,hm,hlen0,hy,hx⟩
  ·exact⟨[], .nil _ _,eA _⟩
  ·rw[c0]at hx;have key: ∀i,i<len-> ∃p:SV,(∀k,k<5->W.cell? ((a.add (i*5)).add k)=(qD p)[k]?)/\p.ok W (vJ W)/\ ∀hi:i<elems.length,St.wt p.s<=Rows.uptoBulk (elems[i]'hi).1:=fun i hi=>by
    have hie:i<elems.length:=by omega
    obtain⟨cs',h1,h2,h3⟩:=hx i hie
    match cs',h2 with
    | [u0,u1,u2,u3,u4],_=>
     obtain⟨m,xs,rfl,_,hyx,hxl,hf⟩:=g7 underlying66 h3;obtain⟨y0,j0,k0⟩:=hf 0 _ rfl;have k0:DataW.trod enc prog W base sp hd m 3 [u0]=some y0:=by simpa[cI]using k0
     obtain⟨y1,j1,k1⟩:=hf 1 _ rfl;have k1:DataW.trod enc prog W base sp hd m 9 [u1]=some y1:=by simpa[cS]using k1
     obtain⟨y2,j2,k2⟩:=hf 2 _ rfl;have k2:DataW.trod enc prog W base sp hd m 64 [u2]=some y2:=by simpa[cE]using k2
     obtain⟨y3,j3,k3⟩:=hf 3 _ rfl;have k3:DataW.trod enc prog W base sp hd m 61 [u3]=some y3:=by simpa[cB]using k3
     obtain⟨y4,j4,k4⟩:=hf 4 _ rfl;have k4:DataW.trod enc prog W base sp hd m 61 [u4]=some y4:=by simpa[cB]using k4
     obtain⟨z0,rfl,_⟩:=hZ underlying3 k0;obtain⟨s1,e1,d1,_⟩:=DataW.trod_string underlying9 k1;injection e1 with e1;have e1:u1= .string (ag s1.data.toList):=by rw[ka];exact e1
     subst e1;obtain⟨l2,r2,w2⟩:=mw m m (an _) k2;obtain⟨l3,r3,w3⟩:=kf N m (by omega) k3;obtain⟨l4,r4,w4⟩:=kf N m (by omega) k4
     obtain⟨x0,x1,x2,x3,x4,rfl⟩: ∃x0 x1 x2 x3 x4,xs=[x0,x1,x2,x3,x4]:=(by
      match xs,hxl with
      | [x0,x1,x2,x3,x4],_=>exact⟨x0,x1,x2,x3,x4,rfl⟩)
     obtain rfl:x0=y0:=by simpa using j0
     obtain rfl:x1=y1:=by simpa using j1
     obtain rfl:x2=y2:=by simpa using j2
     obtain rfl:x3=y3:=by simpa using j3
     obtain rfl:x4=y4:=by simpa using j4
     refine⟨⟨.mk z0 s1.data.toList l2 l3 l4,u2,u3,u4⟩,h1,⟨r2,r3,r4⟩,fun hi=> ?_⟩;rw[hyx];simp only[bI,dw,Rows.uptoBulk,Rows.uptoBulkAll,d1];have h0:=eA x0.1;simp only[St.wt,Rows.uptoBulk];omega
   obtain⟨f,hf⟩:=choose_lt (α:=SV) key;have hbk:dq ((List.range len).map fun i=>(f i).s)+1<=Rows.uptoBulk y.1:=by
    have h1:=iI (fun p:SV=>St.wt p.s) elems f (fun i hi=>(hf i (by omega)).2.2 hi);rw[hlen0]at h1;have h2:=gQ elems rest;rw[hy];rw[rx,dx];rw[dx]at h1;have:(List.map (St.wt ∘ fun i=>(f i).s) (List.range len)).sum=(List.map ((fun p:SV=>p.s.wt) ∘ f) (List.range len)).sum:=rfl;omega
   by_cases h0:len=0
   ·subst h0;exact⟨[], .nil _ _,eA _⟩
   ·obtain⟨b,off,spot⟩:=a;have q1:=(hf 0 (by omega)).1 0 (by omega);have hspot:spot=none:=by simpa[Addr.add]using World.cell?_spot (show _=some _ from q1)
    subst hspot;have hlt:b<W.heap.size:=by
     have:=World.block_lt_of_cell? _ _ (show _=some _ from q1);simpa[Addr.add]using this
    refine⟨(List.range len).map fun i=>(f i).s, .row b off len cap _ (fun i=>(f i).e) (fun i=>(f i).b) (fun i=>(f i).l) hlt hlt (by simp) hl hm (fun i hi=> ?_) (fun i hi=> ?_) (fun i hi=> ?_) (fun i hi=> ?_),hbk⟩
    ·have hi':i<len:=by simpa using hi
     have g:=(hf i hi').1;have g0:=g 0 (by omega);have g1:=g 1 (by omega);have g2:=g 2 (by omega);have g3:=g 3 (by omega);have g4:=g 4 (by omega);rw[oU]at g0 g1 g2 g3 g4;simpa[qD]using⟨g0,g1,g2,g3,g4⟩
    ·have hi':i<len:=by simpa using hi
     simpa using(hf i hi').2.1.1
    ·have hi':i<len:=by simpa using hi
     simpa using(hf i hi').2.1.2.1
    ·have hi':i<len:=by simpa using hi
     simpa using(hf i hi').2.1.2.2
theorem qY {base fuel:Nat} {hd:Bool} {sp:Nat->Bool} {c:Value} {y:DataW H×List MemPlace} (h:DataW.trod enc prog W base sp hd fuel 23 [c]=some y): ∃l,fO W (vJ W) c l/\(l.map fun f=>f.wt+1).sum+1<=Rows.uptoBulk y.1:=by
 have c0:prog.cellsOf 63=3:=by kernel_rfl
 have cS:prog.cellsOf 9=1:=by kernel_rfl
 have cN:prog.cellsOf 56=1:=by kernel_rfl
 have cB:prog.cellsOf 61=1:=by kernel_rfl
 rcases iv underlying23 h with rfl|⟨a,len,cap,n,elems,rest,rfl,rfl,hl,hm,hlen0,hy,hx⟩
 ·exact⟨[],⟨none,0,rfl, .inl rfl⟩,eA _⟩
 ·rw[c0]at hx;have key: ∀i,i<len-> ∃p:FV,(∀k,k<3->W.cell? ((a.add (i*3)).add k)=(p7 p)[k]?)/\p.ok W (vJ W)/\ ∀hi:i<elems.length,p.c.wt+1<=Rows.uptoBulk (elems[i]'hi).1:=fun i hi=>by
   have hie:i<elems.length:=by omega
   obtain⟨cs',h1,h2,h3⟩:=hx i hie
   match cs',h2 with
   | [u0,u1,u2],_=>
    obtain⟨m,xs,rfl,_,hyx,hxl,hf⟩:=g7 underlying63 h3;obtain⟨y0,j0,k0⟩:=hf 0 _ rfl;have k0:DataW.trod enc prog W base sp hd m 9 [u0]=some y0:=by simpa[cS]using k0
    obtain⟨y1,j1,k1⟩:=hf 1 _ rfl;have k1:DataW.trod enc prog W base sp hd m 56 [u1]=some y1:=by simpa[cN]using k1
    obtain⟨y2,j2,k2⟩:=hf 2 _ rfl;have k2:DataW.trod enc prog W base sp hd m 61 [u2]=some y2:=by simpa[cB]using k2
    obtain⟨s0,e0,d0,_⟩:=DataW.trod_string underlying9 k0;injection e0 with e0;have e0:u0= .string (ag s0.data.toList):=by rw[ka];exact e0
    subst e0;obtain⟨l1,r1,w1⟩:=tg k1;obtain⟨l2,r2,w2⟩:=kf m m (an _) k2
    obtain⟨x0,x1,x2,rfl⟩: ∃x0 x1 x2,xs=[x0,x1,x2]:=(by
     match xs,hxl with
     | [x0,x1,x2],_=>exact⟨x0,x1,x2,rfl⟩)
    obtain rfl:x0=y0:=by simpa using j0
    obtain rfl:x1=y1:=by simpa using j1
    obtain rfl:x2=y2:=by simpa using j2
    refine⟨⟨⟨s0.data.toList,l1,l2⟩,u1,u2⟩,h1,⟨r1,r2⟩,fun hi=> ?_⟩;rw[hyx];simp only[bI,dw,Rows.uptoBulk,Rows.uptoBulkAll,d0];simp only[Fc.wt,Rows.uptoBulk];omega
  obtain⟨f,hf⟩:=choose_lt (α:=FV) key;have hbk:(((List.range len).map fun i=>(f i).c).map fun f=>f.wt+1).sum+1<=Rows.uptoBulk y.1:=by
   have h1:=iI (fun p:FV=>p.c.wt+1) elems f (fun i hi=>(hf i (by omega)).2.2 hi);rw[hlen0]at h1;have h2:=gQ elems rest;rw[hy];rw[dx];rw[dx]at h1;have:(List.map ((fun f:Fc=>f.wt+1) ∘ fun i=>(f i).c) (List.range len)).sum=(List.map ((fun p:FV=>p.c.wt+1) ∘ f) (List.range len)).sum:=rfl;omega
  by_cases h0:len=0
  ·subst h0;exact⟨[],⟨some a,cap,rfl, .inl rfl⟩,eA _⟩
  ·obtain⟨b,off,spot⟩:=a;have q1:=(hf 0 (by omega)).1 0 (by omega);have hspot:spot=none:=by simpa[Addr.add]using World.cell?_spot (show _=some _ from q1)
   subst hspot;have hlt:b<W.heap.size:=by
    have:=World.block_lt_of_cell? _ _ (show _=some _ from q1);simpa[Addr.add]using this
   have hlen:((List.range len).map fun i=>(f i).c).length=len:=by simp
   refine⟨(List.range len).map fun i=>(f i).c,⟨_,cap,by rw[hlen], .inr ⟨by omega,hm,b,off,rfl,hlt,hlt,(fun i=>(f i).p),(fun i=>(f i).b),fun i hi=> ?_⟩⟩,hbk⟩;have hi':i<len:=by simpa using hi
   have g:=(hf i hi').1;have g0:=g 0 (by omega);have g1:=g 1 (by omega);have g2:=g 2 (by omega);rw[oU]at g0 g1 g2;have q:=(hf i hi').2.1;refine⟨?_,?_,?_,?_,?_⟩
   ·simpa[p7]using g0
   ·simpa[p7]using g1
   ·simpa[p7]using g2
   ·simpa using q.1
   ·simpa using q.2
theorem tb {base fuel:Nat} {hd:Bool} {sp:Nat->Bool} {c:Value} {y:DataW H×List MemPlace} (h:DataW.trod enc prog W base sp hd fuel 22 [c]=some y): ∃l,fH W (vJ W) c l/\(l.map fun v=>v.nm.length+1).sum+1<=Rows.uptoBulk y.1:=by
 have c0:prog.cellsOf 109=2:=by kernel_rfl
 have cS:prog.cellsOf 9=1:=by kernel_rfl
 have cI:prog.cellsOf 3=1:=by kernel_rfl
 rcases iv underlying22 h with rfl|⟨a,len,cap,n,elems,rest,rfl,rfl,hl,hm,hlen0,hy,hx⟩
 ·exact⟨[],⟨none,0,rfl, .inl rfl⟩,eA _⟩
 ·rw[c0]at hx;have key: ∀i,i<len-> ∃p:Vr,(∀k,k<2->W.cell? ((a.add (i*2)).add k)=(qq p)[k]?)/\True/\ ∀hi:i<elems.length,p.nm.length+1<=Rows.uptoBulk (elems[i]'hi).1:=fun i hi=>by
   have hie:i<elems.length:=by omega
   obtain⟨cs',h1,h2,h3⟩:=hx i hie
   match cs',h2 with
   | [u0,u1],_=>
    obtain⟨m,xs,rfl,_,hyx,hxl,hf⟩:=g7 underlying109 h3;obtain⟨y0,j0,k0⟩:=hf 0 _ rfl;have k0:DataW.trod enc prog W base sp hd m 9 [u0]=some y0:=by simpa[cS]using k0
    obtain⟨y1,j1,k1⟩:=hf 1 _ rfl;have k1:DataW.trod enc prog W base sp hd m 3 [u1]=some y1:=by simpa[cI]using k1
    obtain⟨s0,e0,d0,_⟩:=DataW.trod_string underlying9 k0;injection e0 with e0;have e0:u0= .string (ag s0.data.toList):=by rw[ka];exact e0
    subst e0;obtain⟨z1,rfl,_⟩:=hZ underlying3 k1
    obtain⟨x0,x1,rfl⟩: ∃x0 x1,xs=[x0,x1]:=(by
     match xs,hxl with
     | [x0,x1],_=>exact⟨x0,x1,rfl⟩)
    obtain rfl:x0=y0:=by simpa using j0
    obtain rfl:x1=y1:=by simpa using j1
    refine⟨⟨s0.data.toList,z1⟩,h1,trivial,fun hi=> ?_⟩;rw[hyx];simp only[bI,dw,Rows.uptoBulk,Rows.uptoBulkAll,d0];have h1:=eA x1.1;try simp only[Rows.uptoBulk]
    omega
  obtain⟨f,hf⟩:=choose_lt (α:=Vr) key;have hbk:(((List.range len).map fun i=>(f i)).map fun v=>v.nm.length+1).sum+1<=Rows.uptoBulk y.1:=by
   have h1:=iI (fun p:Vr=>p.nm.length+1) elems f (fun i hi=>(hf i (by omega)).2.2 hi);rw[hlen0]at h1;have h2:=gQ elems rest;rw[hy];rw[dx];rw[dx]at h1;have:(List.map ((fun v:Vr=>v.nm.length+1) ∘ fun i=>f i) (List.range len)).sum=(List.map ((fun p:Vr=>p.nm.length+1) ∘ f) (List.range len)).sum:=rfl;omega
  by_cases h0:len=0
  ·subst h0;exact⟨[],⟨some a,cap,rfl, .inl rfl⟩,eA _⟩
  ·obtain⟨b,off,spot⟩:=a;have q1:=(hf 0 (by omega)).1 0 (by omega);have hspot:spot=none:=by simpa[Addr.add]using World.cell?_spot (show _=some _ from q1)
   subst hspot;have hlt:b<W.heap.size:=by
    have:=World.block_lt_of_cell? _ _ (show _=some _ from q1);simpa[Addr.add]using this
   have hlen:((List.range len).map fun i=>f i).length=len:=by simp
   refine⟨(List.range len).map fun i=>f i,⟨_,cap,by rw[hlen], .inr ⟨by omega,hm,b,off,rfl,hlt,hlt,fun i hi=> ?_⟩⟩,hbk⟩;have hi':i<len:=by simpa using hi
   have g0:=(hf i hi').1 0 (by omega);have g1:=(hf i hi').1 1 (by omega);rw[oU]at g0 g1;exact⟨by simpa[qq]using g0,by simpa[qq]using g1⟩
theorem uD {w:World} {P:Nat->Prop} {v:Value} {l:List Vr} (h:fH w P v l): ∃A n c,v= .slice A n c:=by obtain⟨A,c,rfl,_⟩:=h;exact⟨_,_,_,rfl⟩
theorem uF {w:World} {P:Nat->Prop} {v:Value} {l:List Fc} (h:fO w P v l): ∃A n c,v= .slice A n c:=by obtain⟨A,c,rfl,_⟩:=h;exact⟨_,_,_,rfl⟩
theorem rZ {r:Reach} {b0 base:Nat} {sp:Nat->Bool} {hd:Bool} {v:Value} {d:DataW H} {p:List MemPlace} (hv:Value.okWide prog W r b0 25 v) (h:DataW.Trod enc prog W base sp hd 25 v d p):
  ∃(A B:Option Addr) (n c m e:Nat) (g:Pg),v= .agg #[.slice A n c, .slice B m e]/\fH W (vJ W) (.slice A n c) g.vs/\fO W (vJ W) (.slice B m e) g.fs/\jS g<=Rows.uptoBulk d:=by
 obtain⟨v0,v1,y0,y1,n,rfl,rfl,_,k0,k1⟩:=th underlying25 (by kernel_rfl) (by kernel_rfl) hv h;obtain⟨l0,r0,w0⟩:=tb k0;obtain⟨l1,r1,w1⟩:=qY k1;obtain⟨A,n,c,rfl⟩:=uD r0;obtain⟨B,m,e,rfl⟩:=uF r1;refine⟨A,B,n,c,m,e,⟨l0,l1⟩,rfl,r0,r1,?_⟩;simp only[jS,Rows.uptoBulk,Rows.uptoBulkAll];omega
end
end
section
open Go.RowKit
end
end Go.Proofs.YtddomeddabfinaaGreatDoor
