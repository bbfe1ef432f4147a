/-
  Parts of the proof: OpenP OpenPx OwnA OwnB Few.
-/
import Derived.LaidLaws
import Derived.LaidHandle
import Derived.Handed
import Derived.Lay
import Derived.LaidOnce
import Derived.MakeChecks
import Derived.SevenTiedAt
import Derived.Lib.LaidU8
import Derived.Test.YtelplgkppalmfaaGreatDoorPq04
import Derived.Test.YtelplgkppalmfaaGreatDoorTie
import Derived.Test.YtelplgkppalmfaaGreatDoorCards
import Derived.Test.YtelplgkppalmfaaGreatDoorPq29
import Derived.Test.YtelplgkppalmfaaGreatDoorPq16
import Derived.Test.YtelplgkppalmfaaGreatDoorPq26
import Derived.Test.YtelplgkppalmfaaGreatDoorPq28
set_option maxRecDepth 100000
set_option maxHeartbeats 8000000
set_option linter.unusedVariables false
set_option linter.unusedSimpArgs false
namespace Go.Proofs.YtelplgkppalmfaaGreatDoor
open Go.Proofs.Tryz
open Go.Joins Go.ChangeShapes Go.WideShapes Go.ChangeAt Go.RowKit Go.Deep
theorem tab_of_reads {P:Program} {W:World} {name:String} {k:IntKind} {zs:List Int} {g:Nat} {t e:TypeId} {n:Nat} (hg:P.globalNamed name=some g) (hty:(P.globals[g]?).map (·.type)=some t) (ht:P.underlying t=some (.array n e)) (he:P.underlying e=some (.int k)) (hce:P.cellsOf e=1) (hct:P.cellsOf t=n)
  (h:Lib.VarReads P W name (Lib.tabData k zs)):Lib.TabIs P W name k zs:=by
 obtain⟨g',t',cs,fuel,p,hg',ht',hvar,hd⟩:=h;obtain rfl:=Option.some.inj (hg.symm.trans hg');obtain rfl:=Option.some.inj (hty.symm.trans ht');unfold Lib.TabIs;rw[hvar,<-Lib.cells_of_tab ht he hce hct hd]
theorem iface_of_trod {P:Program} {w:World} {base fuel:Nat} {sp:Nat->Bool} {hd:Bool} {t:TypeId} {ms:Array (String×TypeId)} (ht:P.underlying t=some (.interface ms)) {cs:List Value} {x:DataW Unit×List MemPlace}
  (h:DataW.trod (fun _=>()) P w base sp hd fuel t cs=some x): ∃ev,cs=[ev]/\(ev= .nilIface\/ ∃te pe,ev= .iface te pe):=by
 cases fuel with
 |zero=>simp[DataW.trod]at h
 |succ n=>
  unfold DataW.trod at h;rw[ht]at h;split at h<;>first|(simp_all;done)|skip
  all_goals first|exact⟨_,rfl, .inl rfl⟩|exact⟨_,rfl, .inr ⟨_,_,rfl⟩⟩|skip
theorem err_of_reads {P:Program} {W:World} {name:String} {d:DataW Unit} {g:Nat} {t:TypeId} {ms:Array (String×TypeId)} (hg:P.globalNamed name=some g) (hty:(P.globals[g]?).map (·.type)=some t) (ht:P.underlying t=some (.interface ms)) (h:Lib.VarReads P W name d):
  ∃ev,W.cell? ⟨g,0,none⟩=some ev/\(ev= .nilIface\/ ∃te pe,ev= .iface te pe):=by
 obtain⟨g',t',cs,fuel,p,hg',ht',hvar,hd⟩:=h;obtain rfl:=Option.some.inj (hg.symm.trans hg');obtain rfl:=Option.some.inj (hty.symm.trans ht');obtain⟨ev,e1,e2⟩:=iface_of_trod ht hd;refine⟨ev,?_,e2⟩;rw[World.var?_cell hg hvar 0];have:=congrArg (fun l=>l[0]?) e1;simpa using this
theorem tabs_of_laid {W:World} {l:List (String×DataW Unit)} (h:laidMetH prog l W) (hp:(l.all fun x=>x.2.handleName?.isNone)=true) (h1:("strconv.ErrSyntax",Rows.laid_strconv_ErrSyntax)∈l) (h2:("strconv.ErrRange",Rows.laid_strconv_ErrRange)∈l)
  (h3:("internal/strconv.uint64pow10",Rows.laid_internal_strconv_uint64pow10)∈l):EZ W/\TabW W W.heap.size:=by
 rw[MakeChecks.laidMetH_plain _ _ _ hp]at h;have r1:=Lib.laidMet.reads h h1;have r2:=Lib.laidMet.reads h h2;have r3:=Lib.laidMet.reads h h3;have e3:(Rows.laid_internal_strconv_uint64pow10:DataW Unit)=Lib.tabData .u64 Lib.pow10Tab:=by kernel_rfl
 rw[e3]at r3;have ht:=tab_of_reads (g:=1) (t:=215) (e:=194) (by kernel_rfl) (by kernel_rfl) underlying215 underlying194 (by kernel_rfl) (by kernel_rfl) r3;refine⟨⟨err_of_reads (g:=2) (t:=143) (by kernel_rfl) (by kernel_rfl) underlying143 r1,err_of_reads (g:=3) (t:=143) (by kernel_rfl) (by kernel_rfl) underlying143 r2⟩,ht,?_⟩;unfold Lib.TabIs World.var? at ht;rw[show prog.globalNamed "internal/strconv.uint64pow10" =some 1 by kernel_rfl]at ht;simp only[Option.bind_some]at ht;by_cases hlt:1<W.heap.size
 ·exact hlt
 ·rw[Array.getElem?_eq_none (by omega)]at ht
  cases ht
theorem str_of (s:ByteArray):str s.data.toList=s:=by
 apply ByteArray.ext;simp[str]
section
variable {H:Type} {enc:TypeId×Value->H} {P:Program} {W:World}
theorem trod_rows {t e:TypeId} {fuel:Nat} {base:Nat} {sp:Nat->Bool} {hd:Bool} {c:Value} {y:DataW H×List MemPlace} (ht:P.underlying t=some (.slice e)) (h:DataW.trod enc P W base sp hd fuel t [c]=some y):
  c= .slice none 0 0\/ ∃(a:Addr) (len cap n:Nat) (elems:List (DataW H×List MemPlace)) (rest:List (DataW H)),fuel=n+1/\c= .slice (some a) len cap/\len<=cap/\cap<=maxLen/\elems.length=len/\y.1= .slice (elems.map (·.1)) rest/\
   ∀i (hi:i<elems.length),∃cs',(∀k,k<P.cellsOf e->W.cell? ((a.add (i*P.cellsOf e)).add k)=cs'[k]?)/\cs'.length=P.cellsOf e/\DataW.trod enc P W base sp hd n e cs'=some elems[i]:=by
 rcases DataW.trod_slice ht h with⟨hcs,_⟩|⟨a,len,cap,elems,rest,n,hf,hcs,hx,hb,hl,hm,hlen,hel,_,_⟩
 ·injection hcs with hcs;exact .inl hcs
 ·injection hcs with hcs;refine .inr ⟨a,len,cap,n,elems,rest.map (·.1),hf,hcs,hl,hm,hlen,by rw[hx],fun i hi=> ?_⟩;have key:=hel i (by omega);rw[List.getElem?_eq_getElem hi]at key;obtain⟨cs',h1,h2⟩:=Option.bind_eq_some_iff.1 key;obtain⟨_,h3,h4⟩:=World.cells?_some h1;exact⟨cs',fun k hk=>h4 k hk,h3,h2⟩
theorem trod_fields {t:TypeId} {fs:Array Field} {fuel:Nat} {base:Nat} {sp:Nat->Bool} {hd:Bool} {cs:List Value} {y:DataW H×List MemPlace} (ht:P.underlying t=some (.struct fs)) (h:DataW.trod enc P W base sp hd fuel t cs=some y):
  ∃(n:Nat) (xs:List (DataW H×List MemPlace)),fuel=n+1/\cs.length=P.cellsOf t/\y.1= .agg (xs.map (·.1))/\xs.length=fs.size/\ ∀(i:Nat) (f:Field),fs[i]? =some f-> ∃y',xs[i]? =some y'/\DataW.trod enc P W base sp hd n f.type ((cs.drop f.offset).take (P.cellsOf f.type))=some y':=by
 obtain⟨xs,n,hf,hx,hl,hs,hg⟩:=DataW.trod_struct ht h;refine⟨n,xs,hf,hl,by rw[hx],hs,fun i f hi=> ?_⟩;have hlt:i<fs.size:=(Array.getElem?_eq_some_iff.1 hi).1;refine⟨_,List.getElem?_eq_getElem (by omega),?_⟩;rw[hg i f hi,List.getElem?_eq_getElem (by omega)]
theorem bulk_sum {α:Type} (wt:α->Nat): ∀(elems:List (DataW H×List MemPlace)) (g:Nat->α),(∀i (h:i<elems.length),wt (g i)<=Rows.uptoBulk elems[i].1)->(((List.range elems.length).map g).map wt).sum<=Rows.uptoBulkAll (elems.map (·.1))
 | [],g,_=>by simp[Rows.uptoBulkAll]
 |y::r,g,h=>by
  have h0:=h 0 (by simp);have h1:=bulk_sum wt r (fun i=>g (i+1)) (fun i hi=>by have:=h (i+1) (by simpa using hi);simpa using this);rw[List.length_cons,List.range_succ_eq_map];simp only[List.map_cons,List.map_map,List.sum_cons,Rows.uptoBulkAll]at h0 h1⊢;simp only[List.getElem_cons_zero]at h0;have:(List.map (wt ∘ g ∘ Nat.succ) (List.range r.length)).sum=(List.map (wt ∘ fun i=>g (i+1)) (List.range r.length)).sum:=rfl;omega
theorem wtL_sum: ∀l:List Ex,wtL l=(l.map Ex.wt).sum
 | []=>rfl
 |x::r=>by rw[wtL,wtL_sum r];rfl
theorem bulk_slice (elems:List (DataW H×List MemPlace)) (rest:List (DataW H)):Rows.uptoBulkAll (elems.map (·.1))+1<=Rows.uptoBulk (DataW.slice (elems.map (·.1)) rest):=by
 simp only[Rows.uptoBulk];omega
theorem one_leB (d:DataW H):1<=Rows.uptoBulk d:=by
 cases d with
 |lit l=>cases l<;>simp[Rows.uptoBulk]
 |nil=>simp[Rows.uptoBulk]
 |ptr d=>simp[Rows.uptoBulk]
 |slice elems spare=>simp[Rows.uptoBulk]
 |agg parts=>simp[Rows.uptoBulk]
 |iface t d=>simp[Rows.uptoBulk]
 |map entries=>simp[Rows.uptoBulk]
 |held h=>simp[Rows.uptoBulk]
theorem add_at (b o n k:Nat):((Addr.mk b o none).add n).add k=⟨b,o+n+k,none⟩:=by rw[Addr.add_lit,Addr.add_lit]
instance:Inhabited Ex:=⟨.mk 0 [] [] [] 0 []⟩
instance:Inhabited SV:=⟨⟨.mk 0 [] [] [] [], .nilIface, .nilIface, .nilIface⟩⟩
instance:Inhabited FV:=⟨⟨⟨[],[],[]⟩, .nilIface, .nilIface⟩⟩
instance:Inhabited Vr:=⟨⟨[],0⟩⟩
def inW (W:World) (b:Nat):Prop:=b<W.heap.size
theorem open_exprs {base:Nat} {hd:Bool} {sp:Nat->Bool}: ∀(N fuel:Nat),fuel<=N-> ∀{c:Value} {y:DataW H×List MemPlace},DataW.trod enc prog W base sp hd fuel 47 [c]=some y-> ∃l,RdE W (inW W) c l/\wtL l+1<=Rows.uptoBulk y.1
 |0,fuel,hN,c,y,h=>by
  obtain rfl:fuel=0:=by omega
  simp[DataW.trod]at h
 |N+1,fuel,hN,c,y,h=>by
  have c0:prog.cellsOf 49=6:=by kernel_rfl
  have cI:prog.cellsOf 3=1:=by kernel_rfl
  have cS:prog.cellsOf 9=1:=by kernel_rfl
  have cE:prog.cellsOf 47=1:=by kernel_rfl
  rcases trod_rows underlying47 h with rfl|⟨a,len,cap,n,elems,rest,rfl,rfl,hl,hm,hlen0,hy,hx⟩
  ·exact⟨[], .nil _ _,one_leB _⟩
  ·rw[c0]at hx;have key: ∀i,i<len-> ∃p:Ex×Value,(∀k,k<6->W.cell? ((a.add (i*6)).add k)=(exC p.1 p.2)[k]?)/\RdE W (inW W) p.2 p.1.args/\ ∀hi:i<elems.length,Ex.wt p.1<=Rows.uptoBulk (elems[i]'hi).1:=fun i hi=>by
    have hie:i<elems.length:=by omega
    obtain⟨cs',h1,h2,h3⟩:=hx i hie
    match cs',h2 with
    | [u0,u1,u2,u3,u4,u5],_=>
     obtain⟨m,xs,rfl,_,hyx,hxl,hf⟩:=trod_fields underlying49 h3;obtain⟨y0,j0,k0⟩:=hf 0 _ rfl;have k0:DataW.trod enc prog W base sp hd m 3 [u0]=some y0:=by simpa[cI]using k0
     obtain⟨y1,j1,k1⟩:=hf 1 _ rfl;have k1:DataW.trod enc prog W base sp hd m 9 [u1]=some y1:=by simpa[cS]using k1
     obtain⟨y2,j2,k2⟩:=hf 2 _ rfl;have k2:DataW.trod enc prog W base sp hd m 9 [u2]=some y2:=by simpa[cS]using k2
     obtain⟨y3,j3,k3⟩:=hf 3 _ rfl;have k3:DataW.trod enc prog W base sp hd m 9 [u3]=some y3:=by simpa[cS]using k3
     obtain⟨y4,j4,k4⟩:=hf 4 _ rfl;have k4:DataW.trod enc prog W base sp hd m 3 [u4]=some y4:=by simpa[cI]using k4
     obtain⟨y5,j5,k5⟩:=hf 5 _ rfl;have k5:DataW.trod enc prog W base sp hd m 47 [u5]=some y5:=by simpa[cE]using k5
     obtain⟨z0,rfl,_⟩:=int_of_trod underlying3 k0;obtain⟨s1,e1,d1,_⟩:=DataW.trod_string underlying9 k1;injection e1 with e1;have e1:u1= .string (str s1.data.toList):=by rw[str_of];exact e1
     subst e1;obtain⟨s2,e2,d2,_⟩:=DataW.trod_string underlying9 k2;injection e2 with e2;have e2:u2= .string (str s2.data.toList):=by rw[str_of];exact e2
     subst e2;obtain⟨s3,e3,d3,_⟩:=DataW.trod_string underlying9 k3;injection e3 with e3;have e3:u3= .string (str s3.data.toList):=by rw[str_of];exact e3
     subst e3;obtain⟨z4,rfl,_⟩:=int_of_trod underlying3 k4;obtain⟨l5,r5,w5⟩:=open_exprs N m (by omega) k5
     obtain⟨x0,x1,x2,x3,x4,x5,rfl⟩: ∃x0 x1 x2 x3 x4 x5,xs=[x0,x1,x2,x3,x4,x5]:=(by
      match xs,hxl with
      | [x0,x1,x2,x3,x4,x5],_=>exact⟨x0,x1,x2,x3,x4,x5,rfl⟩)
     obtain rfl:x0=y0:=by simpa using j0
     obtain rfl:x1=y1:=by simpa using j1
     obtain rfl:x2=y2:=by simpa using j2
     obtain rfl:x3=y3:=by simpa using j3
     obtain rfl:x4=y4:=by simpa using j4
     obtain rfl:x5=y5:=by simpa using j5
     refine⟨(.mk z0 s1.data.toList s2.data.toList s3.data.toList z4 l5,u5),h1,r5,fun hi=> ?_⟩;rw[hyx];simp only[List.map_cons,List.map_nil,Rows.uptoBulk,Rows.uptoBulkAll,d1,d2,d3];have h0:=one_leB x0.1;have h4:=one_leB x4.1;simp only[Ex.wt,Rows.uptoBulk];omega
   obtain⟨f,hf⟩:=choose_lt (α:=Ex×Value) key;have hbk:wtL ((List.range len).map fun i=>(f i).1)+1<=Rows.uptoBulk y.1:=by
    have h1:=bulk_sum (fun p:Ex×Value=>Ex.wt p.1) elems f (fun i hi=>(hf i (by omega)).2.2 hi);rw[hlen0]at h1;have h2:=bulk_slice elems rest;rw[hy];rw[wtL_sum,List.map_map];rw[List.map_map]at h1;have:(List.map (Ex.wt ∘ fun i=>(f i).1) (List.range len)).sum=(List.map ((fun p:Ex×Value=>p.1.wt) ∘ f) (List.range len)).sum:=rfl;omega
   by_cases h0:len=0
   ·subst h0;exact⟨[], .nil _ _,one_leB _⟩
   ·obtain⟨b,off,spot⟩:=a;have q1:=(hf 0 (by omega)).1 0 (by omega);have hspot:spot=none:=by simpa[Addr.add]using World.cell?_spot (show _=some _ from q1)
    subst hspot;have hlt:b<W.heap.size:=by
     have:=World.block_lt_of_cell? _ _ (show _=some _ from q1);simpa[Addr.add]using this
    refine⟨(List.range len).map fun i=>(f i).1, .row b off len cap _ (fun i=>(f i).2) hlt hlt (by simp) hl hm (fun i hi=> ?_) (fun i hi=> ?_),hbk⟩
    ·have hi':i<len:=by simpa using hi
     have g:=(hf i hi').1;have g0:=g 0 (by omega);have g1:=g 1 (by omega);have g2:=g 2 (by omega);have g3:=g 3 (by omega);have g4:=g 4 (by omega);have g5:=g 5 (by omega);rw[add_at]at g0 g1 g2 g3 g4 g5;simpa[exC]using⟨g0,g1,g2,g3,g4,g5⟩
    ·have hi':i<len:=by simpa using hi
     simpa using(hf i hi').2.1
end
end Go.Proofs.YtelplgkppalmfaaGreatDoor
namespace Go.Proofs.YtelplgkppalmfaaGreatDoor
open Go.Proofs.Tryz
open Go.ChangeShapes Go.WideShapes Go.ChangeAt Go.RowKit
section
variable {H:Type} {enc:TypeId×Value->H} {P:Program} {W:World}
theorem open_ex {r:Reach} {b0 base:Nat} {sp:Nat->Bool} {hd:Bool} {v:Value} {d:DataW H} {p:List MemPlace} (hv:Value.okWide prog W r b0 49 v) (h:DataW.Trod enc prog W base sp hd 49 v d p):
  ∃(x:Ex) (A:Option Addr) (n c:Nat),v= .agg #[.int .i64 x.k, .string (str x.op), .string (str x.nm), .string (str x.tx), .int .i64 x.v, .slice A n c]/\RdE W (inW W) (.slice A n c) x.args/\x.wt<=Rows.uptoBulk d:=by
 obtain⟨v0,v1,v2,v3,v4,v5,y0,y1,y2,y3,y4,y5,n,rfl,rfl,_,k0,k1,k2,k3,k4,k5⟩:=open_agg6 underlying49 (by kernel_rfl) (by kernel_rfl) hv h;obtain⟨z0,rfl,_⟩:=int_of_trod underlying3 k0;obtain⟨s1,e1,d1,_⟩:=DataW.trod_string underlying9 k1;injection e1 with e1;have e1:v1= .string (str s1.data.toList):=by rw[str_of];exact e1
 subst e1;obtain⟨s2,e2,d2,_⟩:=DataW.trod_string underlying9 k2;injection e2 with e2;have e2:v2= .string (str s2.data.toList):=by rw[str_of];exact e2
 subst e2;obtain⟨s3,e3,d3,_⟩:=DataW.trod_string underlying9 k3;injection e3 with e3;have e3:v3= .string (str s3.data.toList):=by rw[str_of];exact e3
 subst e3;obtain⟨z4,rfl,_⟩:=int_of_trod underlying3 k4;obtain⟨l5,r5,w5⟩:=open_exprs n n (Nat.le_refl _) k5;obtain⟨A,m,c,rfl⟩: ∃A m c,v5= .slice A m c:=by
  cases r5 with
  |nil A c=>exact⟨_,_,_,rfl⟩
  |row b o n c=>exact⟨_,_,_,rfl⟩
 refine⟨.mk z0 s1.data.toList s2.data.toList s3.data.toList z4 l5,A,m,c,rfl,r5,?_⟩;have h0:=one_leB y0.1;have h4:=one_leB y4.1;simp only[Ex.wt,Rows.uptoBulk,Rows.uptoBulkAll,d1,d2,d3];omega
end
end Go.Proofs.YtelplgkppalmfaaGreatDoor
namespace Go.Proofs.YtelplgkppalmfaaGreatDoor
open Go.Proofs.Tryz
open Go.RowKit
def ownE (xs:List Ex):Prop:= ∀(P:Nat->Prop) (w:World) (u:Value),RdE w P u xs->Calls prog 91 #[u] w fun e w'=>Ext w w'/\ ∃A c,e= .returned (.slice A xs.length c)/\RdE w' (fun b=>w.heap.size<=b) (.slice A xs.length c) xs
def ownS (xs:List St):Prop:= ∀(P:Nat->Prop) (w:World) (u:Value),RdS w P u xs->Calls prog 44 #[u] w fun e w'=>Ext w w'/\ ∃A c,e= .returned (.slice A xs.length c)/\RdS w' (fun b=>w.heap.size<=b) (.slice A xs.length c) xs
theorem own_estep (xs:List Ex) (hl:xs.length<=1073741824) (hIH: ∀x,x∈xs->ownE x.args):ownE xs:=by
 intro P w u hu;obtain⟨A,c,rfl,_⟩:=hu.form;obtain⟨n,hn⟩: ∃n,xs.length=n:=⟨_,rfl⟩
 rw[hn]at hu⊢;rw[hn]at hl;have HN:=hide hn;have HR:=hide hu;have HI:=hide hIH;clear hu hIH hn;go_enter func91,ntmps91;go_wp2_with fail
 go_loopw [3,4] (fun vo vi wr=> ∃(j:Nat) (acc:List (Ex×Value)) (C:Option Addr) (cap:Nat),vi= .int .i64 (j:Int)/\vo= .slice C j cap/\j<=n/\Hid (acc.map (·.1)=xs.take j)/\Hid (acc.length=j)/\Hid (OwnE wr w.heap.size 131 (.slice C j cap) acc)/\Hid (Ext w wr)) (fun vo vi _=>n-(intOf vi).toNat)
 case atStart=>exact⟨0,[],none,0,rfl,rfl,Nat.zero_le _,hide rfl,hide rfl,hide (OwnE.nil_ _ _ _),hide (Ext.refl w)⟩
 case round=>
  obtain⟨j,acc,C,cap,rfl,rfl,hj,HM,HL,HO,HX⟩:=hrel;by_cases hlt:j<n
  ·have hlt':(j:Int)<n:=by omega
   have hjl:j<xs.length:=by have:=HN.out;omega
   obtain⟨b,o,a,rfl,hb,hP,h0,h1,h2,h3,h4,h5,hRa⟩:=HR.out.at_ j hjl;have hbl:b<wr.heap.size:=Nat.lt_of_lt_of_le hb HX.out.size;have HT:=hide (show xs.take (j+1)=xs.take j++[xs[j]]from List.take_succ_eq_append_getElem hjl);have hIx:=HI.out _ (List.getElem_mem hjl);generalize xs[j]=x at*;have e0:=(HX.out.cell b _ hb).trans h0;have e1:=(HX.out.cell b _ hb).trans h1;have e2:=(HX.out.cell b _ hb).trans h2;have e3:=(HX.out.cell b _ hb).trans h3;have e4:=(HX.out.cell b _ hb).trans h4;have e5:=(HX.out.cell b _ hb).trans h5;obtain⟨A2,c2,rfl,_⟩:=hRa.form;have HRa:=hide (hRa.keep (.of_ext HX.out) (Q:=P) (fun b hb _=>hb));have HIx:=hide hIx;have HB:=hide (Blk.new wr 49 #[.int .i64 x.k, .string (str x.op), .string (str x.nm), .string (str x.tx), .int .i64 x.v, .slice A2 x.args.length c2]);have hx1:=Ext.alloc wr (.cells #[.int .i64 x.k, .string (str x.op), .string (str x.nm), .string (str x.tx), .int .i64 x.v, .slice A2 x.args.length c2] 49);have HX1:=hide hx1;clear h0 h1 h2 h3 h4 h5 hRa hIx hx1;go_wp2_with fail;clear e0 e1 e2 e3 e4 e5
   refine wp_region_ext 16 12 [(13,fun v=> ∃A c,v= .slice A x.args.length c,fun v wx=>RdE wx (fun b=>wr.heap.size<=b) v x.args),
     (15,fun v=> ∃gb,v= .slice (some ⟨gb,0,none⟩) 1 1,fun v wx=> ∃gb A c,v= .slice (some ⟨gb,0,none⟩) 1 1/\wr.heap.size<=gb/\Blk wx gb 131 #[.int .i64 x.k, .string (str x.op), .string (str x.nm), .string (str x.tx), .int .i64 x.v, .slice A x.args.length c]/\RdE wx (fun b=>wr.heap.size<=b) (.slice A x.args.length c) x.args)] mixed (by kernel_rfl)
    ⟨fun _ _ _ h hx=>h.keep (.of_ext hx) (fun _ hb _=>hb),fun _ _ _ h hx=>(let⟨gb,A,c,h1,h2,h3,h4⟩:=h;⟨gb,A,c,h1,h2,h3.ext hx,h4.keep (.of_ext hx) (fun _ hb _=>hb)⟩),trivial⟩ ?_
   repeat (refine sx ?_ (fun w1 hU=> ?_) ?_;rotate_left;(focus have f1:=(HB.out.ext hU.un).cell;clear hU;go_simp<;>with_reducible rfl);simp only[pq0,pq1,pq2,pq3,pq4])
   refine seq_opaque _ _ (by rfl) rfl ⟨_,none,0,rfl⟩ (by simp) (fun w6 hU hp K hK=> ?_) ?_
   ·clear hp;have hE6:=HX1.out.trans hU.un;have hc:=HIx.out P w6 _ (HRa.out.keep (.of_ext hE6) (fun _ hb _=>hb));have hs:=hE6.size;clear hU hE6;go_simp;refine hc.mono ?_;rintro e w7 ⟨hE,A3,c3,rfl,hR3⟩;exact hK _ _ hE ⟨_,_,rfl⟩ (hR3.mono (fun b hb _=>Nat.le_trans hs hb))
   rintro _ ⟨A3,c3,rfl⟩;simp only[pq0,pq1,pq2,pq3,pq4];repeat (refine sx ?_ (fun w1 hU=> ?_) ?_;rotate_left;(focus go_simp<;>with_reducible rfl);simp only[pq0,pq1,pq2,pq3,pq4])
   refine seq_opaque _ _ (by rfl) rfl ⟨_,0,rfl⟩ (by simp) (fun w6 hU hp K hK=> ?_) ?_
   ·have h3:RdE w6 (fun b=>wr.heap.size<=b) (.slice A3 x.args.length c3) x.args:=hp _ (.head _) (by kernel_rfl);have hs:=(HX1.out.trans hU.un).size;clear hU hp;go_simp;exact hK _ _ (Ext.alloc w6 _) ⟨_,rfl⟩ ⟨_,_,_,rfl,hs,Blk.new w6 _ _,h3.keep (.of_ext (Ext.alloc w6 _)) (fun _ hb _=>hb)⟩
   rintro _ ⟨gb,rfl⟩;simp only[pq0,pq1,pq2,pq3,pq4];intro w8 hw8 hp;obtain⟨gb',A4,c4,hgb,hz,hB3,hR3⟩:=hp _ (.head _);injection hgb with hgb;injection hgb with hgb;injection hgb with hgb;subst hgb;clear hp;simp only[List.drop_succ_cons,List.drop_zero];have hE8:=HX1.out.trans hw8.un;have HX8:=hide (HX.out.trans hE8);have hO8:=HO.out.ext hE8;have hrow:=World.ownsRow.lt HO.out.1;have hs8:=HX8.out.size;have HR3:=hide (hR3.mono (Q:=fun b=>w.heap.size<=b/\some b≠Value.ownBlock (.slice C j cap)) (fun b hb _=>⟨Nat.le_trans HX.out.size hb,fun e=>by have:=(hrow b e.symm).2;omega⟩));clear hw8 hE8 hR3;have hl8:=HL.out;refine wpList_app1 pet rfl _ _ rfl w.heap.size _ j (exRow acc) rfl (by have:=hO8.1;rw[hl8]at this;exact this) gb (exC x (.slice A4 x.args.length c4)) rfl hB3 rfl (exC_one _ _ _ _) (by omega) (by decide) hs8 ?_;intro A' cap' w9 hq1 hq2 hq3;have HO9:=hide (hO8.snoc HR3.out (by rw[hl8];exact hq1) hq2 hq3);rw[hl8]at HO9;have HX9:=hide (HX8.out.grown hq2 (fun k e=>(hrow k e).1));have HM9:=hide (show(acc++[(x,Value.slice A4 x.args.length c4)]).map (·.1)=xs.take (j+1) by rw[HT.out,List.map_append,HM.out];rfl);have HL9:=hide (show(acc++[(x,Value.slice A4 x.args.length c4)]).length=j+1 by rw[List.length_append,hl8];rfl);clear hq1 hq2 hq3 hO8 hB3 HR3 hrow HM HL hl8 HT;go_wp2_with fail;go_roundw
   case rel=>exact⟨j+1,_,_,_,by go_num,rfl,by omega,HM9,HL9,HO9,HX9⟩
   case measure=>simp[intOf];omega
  ·have hlt': ¬(j:Int)<n:=by omega
   have hjn:j=n:=by omega
   subst hjn
   have HQ:=hide (show RdE wr (fun b=>w.heap.size<=b) (.slice C j cap) xs by
    have:=HO.out.rd;rw[HM.out,List.take_of_length_le (by have:=HN.out;omega)]at this
    exact this)
   clear HO HM HL;go_wp2_with fail;go_ret;exact⟨HX.out,C,cap,rfl,HQ.out⟩
theorem own_eall: ∀(k:Nat) (xs:List Ex),wtL xs<k->k<=1000000001->ownE xs
 |0,xs,h,_=>absurd h (Nat.not_lt_zero _)
 |k+1,xs,h,hk=>own_estep xs (by have:=wtL_length xs;omega) (fun x hx=>own_eall k x.args (by have:=wtL_mem hx;have:=x.wt_eq;omega) (by omega))
theorem own_e {xs:List Ex} (h:wtL xs<=1000000000):ownE xs:=own_eall _ xs (Nat.lt_succ_self _) (by omega)
theorem own_sstep (xs:List St) (hl:xs.length<=1073741824) (hIH: ∀x,x∈xs->ownE x.ex/\ownS x.body/\ownS x.els):ownS xs:=by
 intro P w u hu;obtain⟨A,c,rfl,_⟩:=hu.form;obtain⟨n,hn⟩: ∃n,xs.length=n:=⟨_,rfl⟩
 rw[hn]at hu⊢;rw[hn]at hl;have HN:=hide hn;have HR:=hide hu;have HI:=hide hIH;clear hu hIH hn;go_enter func44,ntmps44;go_wp2_with fail
 go_loopw [3,4] (fun vo vi wr=> ∃(j:Nat) (acc:List SV) (C:Option Addr) (cap:Nat),vi= .int .i64 (j:Int)/\vo= .slice C j cap/\j<=n/\Hid (acc.map (·.s)=xs.take j)/\Hid (acc.length=j)/\Hid (OwnSt wr w.heap.size 76 (.slice C j cap) acc)/\Hid (Ext w wr)) (fun vo vi _=>n-(intOf vi).toNat)
 case atStart=>exact⟨0,[],none,0,rfl,rfl,Nat.zero_le _,hide rfl,hide rfl,hide (OwnSt.nil_ _ _ _),hide (Ext.refl w)⟩
 case round=>
  obtain⟨j,acc,C,cap,rfl,rfl,hj,HM,HL,HO,HX⟩:=hrel;by_cases hlt:j<n
  ·have hlt':(j:Int)<n:=by omega
   have hjl:j<xs.length:=by have:=HN.out;omega
   obtain⟨b,o,a,g,z,rfl,hb,hP,h0,h1,h2,h3,h4,hRa,hRb,hRc⟩:=HR.out.at_ j hjl;have hbl:b<wr.heap.size:=Nat.lt_of_lt_of_le hb HX.out.size;have HT:=hide (show xs.take (j+1)=xs.take j++[xs[j]]from List.take_succ_eq_append_getElem hjl);have hIx:=HI.out _ (List.getElem_mem hjl);generalize xs[j]=x at*;have e0:=(HX.out.cell b _ hb).trans h0;have e1:=(HX.out.cell b _ hb).trans h1;have e2:=(HX.out.cell b _ hb).trans h2;have e3:=(HX.out.cell b _ hb).trans h3;have e4:=(HX.out.cell b _ hb).trans h4;obtain⟨A2,c2,rfl,_⟩:=hRa.form;obtain⟨B2,d2,rfl,_⟩:=hRb.form;obtain⟨C2,i2,rfl,_⟩:=hRc.form;have HRa:=hide (hRa.keep (.of_ext HX.out) (Q:=P) (fun b hb _=>hb));have HRb:=hide (hRb.keep (.of_ext HX.out) (Q:=P) (fun b hb _=>hb));have HRc:=hide (hRc.keep (.of_ext HX.out) (Q:=P) (fun b hb _=>hb));have HIx:=hide hIx;have HB:=hide (Blk.new wr 66 #[.int .i64 x.k, .string (str x.nm), .slice A2 x.ex.length c2, .slice B2 x.body.length d2, .slice C2 x.els.length i2]);have hx1:=Ext.alloc wr (.cells #[.int .i64 x.k, .string (str x.nm), .slice A2 x.ex.length c2, .slice B2 x.body.length d2, .slice C2 x.els.length i2] 66);have HX1:=hide hx1;clear h0 h1 h2 h3 h4 hRa hRb hRc hIx hx1;go_wp2_with fail;clear e0 e1 e2 e3 e4
   refine wp_region_ext 16 12 [(7,fun v=> ∃A c,v= .slice A x.ex.length c,fun v wx=>RdE wx (fun b=>wr.heap.size<=b) v x.ex),
     (10,fun v=> ∃A c,v= .slice A x.body.length c,fun v wx=>RdS wx (fun b=>wr.heap.size<=b) v x.body),(13,fun v=> ∃A c,v= .slice A x.els.length c,fun v wx=>RdS wx (fun b=>wr.heap.size<=b) v x.els),
     (15,fun v=> ∃gb,v= .slice (some ⟨gb,0,none⟩) 1 1,fun v wx=> ∃gb A c B d C i,v= .slice (some ⟨gb,0,none⟩) 1 1/\wr.heap.size<=gb/\Blk wx gb 76 #[.int .i64 x.k, .string (str x.nm), .slice A x.ex.length c, .slice B x.body.length d, .slice C x.els.length i]/\RdE wx (fun b=>wr.heap.size<=b) (.slice A x.ex.length c) x.ex/\RdS wx (fun b=>wr.heap.size<=b) (.slice B x.body.length d) x.body/\RdS wx (fun b=>wr.heap.size<=b) (.slice C x.els.length i) x.els)] mixed (by kernel_rfl)
    ⟨fun _ _ _ h hx=>h.keep (.of_ext hx) (fun _ hb _=>hb),fun _ _ _ h hx=>h.keep (.of_ext hx) (fun _ hb _=>hb),fun _ _ _ h hx=>h.keep (.of_ext hx) (fun _ hb _=>hb),fun _ _ _ h hx=>(let⟨gb,A,c,B,d,C,i,h1,h2,h3,h4,h5,h6⟩:=h;⟨gb,A,c,B,d,C,i,h1,h2,h3.ext hx,h4.keep (.of_ext hx) (fun _ hb _=>hb),h5.keep (.of_ext hx) (fun _ hb _=>hb),h6.keep (.of_ext hx) (fun _ hb _=>hb)⟩),trivial⟩ ?_
   repeat (refine sx ?_ (fun w1 hU=> ?_) ?_;rotate_left;(focus have f1:=(HB.out.ext hU.un).cell;clear hU;go_simp<;>with_reducible rfl);simp only[pq0,pq1,pq2,pq3,pq4])
   refine seq_opaque _ _ (by rfl) rfl ⟨_,none,0,rfl⟩ (by simp) (fun w6 hU hp K hK=> ?_) ?_
   ·clear hp;have hE6:=HX1.out.trans hU.un;have hc:=HIx.out.1 P w6 _ (HRa.out.keep (.of_ext hE6) (fun _ hb _=>hb));have hs:=hE6.size;clear hU hE6;go_simp;refine hc.mono ?_;rintro e w7 ⟨hE,A3,c3,rfl,hR3⟩;exact hK _ _ hE ⟨_,_,rfl⟩ (hR3.mono (fun b hb _=>Nat.le_trans hs hb))
   rintro _ ⟨A3,c3,rfl⟩;simp only[pq0,pq1,pq2,pq3,pq4];repeat (refine sx ?_ (fun w1 hU=> ?_) ?_;rotate_left;(focus have f1:=(HB.out.ext hU.un).cell;clear hU;go_simp<;>with_reducible rfl);simp only[pq0,pq1,pq2,pq3,pq4])
   refine seq_opaque _ _ (by rfl) rfl ⟨_,none,0,rfl⟩ (by simp) (fun w6 hU hp K hK=> ?_) ?_
   ·clear hp;have hE6:=HX1.out.trans hU.un;have hc:=HIx.out.2.1 P w6 _ (HRb.out.keep (.of_ext hE6) (fun _ hb _=>hb));have hs:=hE6.size;clear hU hE6;go_simp;refine hc.mono ?_;rintro e w7 ⟨hE,A4,c4,rfl,hR3⟩;exact hK _ _ hE ⟨_,_,rfl⟩ (hR3.mono (fun b hb _=>Nat.le_trans hs hb))
   rintro _ ⟨B3,d3,rfl⟩;simp only[pq0,pq1,pq2,pq3,pq4];repeat (refine sx ?_ (fun w1 hU=> ?_) ?_;rotate_left;(focus have f1:=(HB.out.ext hU.un).cell;clear hU;go_simp<;>with_reducible rfl);simp only[pq0,pq1,pq2,pq3,pq4])
   refine seq_opaque _ _ (by rfl) rfl ⟨_,none,0,rfl⟩ (by simp) (fun w6 hU hp K hK=> ?_) ?_
   ·clear hp;have hE6:=HX1.out.trans hU.un;have hc:=HIx.out.2.2 P w6 _ (HRc.out.keep (.of_ext hE6) (fun _ hb _=>hb));have hs:=hE6.size;clear hU hE6;go_simp;refine hc.mono ?_;rintro e w7 ⟨hE,A4,c4,rfl,hR3⟩;exact hK _ _ hE ⟨_,_,rfl⟩ (hR3.mono (fun b hb _=>Nat.le_trans hs hb))
   rintro _ ⟨C3,i3,rfl⟩;simp only[pq0,pq1,pq2,pq3,pq4];repeat (refine sx ?_ (fun w1 hU=> ?_) ?_;rotate_left;(focus go_simp<;>with_reducible rfl);simp only[pq0,pq1,pq2,pq3,pq4])
   refine seq_opaque _ _ (by rfl) rfl ⟨_,0,rfl⟩ (by simp) (fun w6 hU hp K hK=> ?_) ?_
   ·have h3:RdS w6 (fun b=>wr.heap.size<=b) (.slice C3 x.els.length i3) x.els:=hp _ (.head _) (by kernel_rfl);have h4:RdS w6 (fun b=>wr.heap.size<=b) (.slice B3 x.body.length d3) x.body:=hp _ (.tail _ (.head _)) (by kernel_rfl);have h5:RdE w6 (fun b=>wr.heap.size<=b) (.slice A3 x.ex.length c3) x.ex:=hp _ (.tail _ (.tail _ (.head _))) (by kernel_rfl);have hs:=(HX1.out.trans hU.un).size;clear hU hp;go_simp;exact hK _ _ (Ext.alloc w6 _) ⟨_,rfl⟩ ⟨_,_,_,_,_,_,_,rfl,hs,Blk.new w6 _ _,h5.keep (.of_ext (Ext.alloc w6 _)) (fun _ hb _=>hb),h4.keep (.of_ext (Ext.alloc w6 _)) (fun _ hb _=>hb),h3.keep (.of_ext (Ext.alloc w6 _)) (fun _ hb _=>hb)⟩
   rintro _ ⟨gb,rfl⟩;simp only[pq0,pq1,pq2,pq3,pq4];intro w8 hw8 hp;obtain⟨gb',A4,c4,B4,d4,C4,i4,hgb,hz,hB3,hR3,hR4,hR5⟩:=hp _ (.head _);injection hgb with hgb;injection hgb with hgb;injection hgb with hgb;subst hgb;clear hp;simp only[List.drop_succ_cons,List.drop_zero];have hE8:=HX1.out.trans hw8.un;have HX8:=hide (HX.out.trans hE8);have hO8:=HO.out.ext hE8;have hrow:=World.ownsRow.lt HO.out.1;have hs8:=HX8.out.size;have hq: ∀b,wr.heap.size<=b->w.heap.size<=b/\some b≠Value.ownBlock (.slice C j cap):=fun b hb=>⟨Nat.le_trans HX.out.size hb,fun e=>by have:=(hrow b e.symm).2;omega⟩
   have HR3:=hide (show SV.ok w8 (fun b=>w.heap.size<=b/\some b≠Value.ownBlock (.slice C j cap)) ⟨x, .slice A4 x.ex.length c4, .slice B4 x.body.length d4, .slice C4 x.els.length i4⟩from⟨hR3.mono (fun b hb _=>hq b hb),hR4.mono (fun b hb _=>hq b hb),hR5.mono (fun b hb _=>hq b hb)⟩);clear hw8 hE8 hR3 hR4 hR5 hq;have hl8:=HL.out;refine wpList_app1 stt rfl _ _ rfl w.heap.size _ j (stRow acc) rfl (by have:=hO8.1;rw[hl8]at this;exact this) gb (stC ⟨x, .slice A4 x.ex.length c4, .slice B4 x.body.length d4, .slice C4 x.els.length i4⟩) rfl hB3 rfl (stC_one _ _ _ _ _ _ _ _ _ _) (by omega) (by decide) hs8 ?_;intro A' cap' w9 hq1 hq2 hq3;have HO9:=hide (hO8.snoc HR3.out (by rw[hl8];exact hq1) hq2 hq3);rw[hl8]at HO9;have HX9:=hide (HX8.out.grown hq2 (fun k e=>(hrow k e).1));have HM9:=hide (show(acc++[SV.mk x (.slice A4 x.ex.length c4) (.slice B4 x.body.length d4) (.slice C4 x.els.length i4)]).map (·.s)=xs.take (j+1) by rw[HT.out,List.map_append,HM.out];rfl);have HL9:=hide (show(acc++[SV.mk x (.slice A4 x.ex.length c4) (.slice B4 x.body.length d4) (.slice C4 x.els.length i4)]).length=j+1 by rw[List.length_append,hl8];rfl);clear hq1 hq2 hq3 hO8 hB3 HR3 hrow HM HL hl8 HT;go_wp2_with fail;go_roundw
   case rel=>exact⟨j+1,_,_,_,by go_num,rfl,by omega,HM9,HL9,HO9,HX9⟩
   case measure=>simp[intOf];omega
  ·have hlt': ¬(j:Int)<n:=by omega
   have hjn:j=n:=by omega
   subst hjn
   have HQ:=hide (show RdS wr (fun b=>w.heap.size<=b) (.slice C j cap) xs by
    have:=HO.out.rd;rw[HM.out,List.take_of_length_le (by have:=HN.out;omega)]at this
    exact this)
   clear HO HM HL;go_wp2_with fail;go_ret;exact⟨HX.out,C,cap,rfl,HQ.out⟩
theorem own_sall: ∀(k:Nat) (xs:List St),wtS xs<k->k<=1000000001->ownS xs
 |0,xs,h,_=>absurd h (Nat.not_lt_zero _)
 |k+1,xs,h,hk=>own_sstep xs (by have:=wtS_length xs;omega) (fun x hx=>⟨own_e (by have:=wtS_mem hx;have:=x.wt_eq;omega),own_sall k x.body (by have:=wtS_mem hx;have:=x.wt_eq;omega) (by omega),own_sall k x.els (by have:=wtS_mem hx;have:=x.wt_eq;omega) (by omega)⟩)
theorem own_s {xs:List St} (h:wtS xs<=1000000000):ownS xs:=own_sall _ xs (Nat.lt_succ_self _) (by omega)
end Go.Proofs.YtelplgkppalmfaaGreatDoor
namespace Go.Proofs.YtelplgkppalmfaaGreatDoor
open Go.Proofs.Tryz
open Go.RowKit
theorem own_any (p:Pg) (hv:p.vs.length<=1000000000) (hf:p.fs.length<=1000000000) (hb: ∀f,f∈p.fs->wtS f.body<=1000000000) (P:Nat->Prop) (w:World) (A B:Option Addr) (n c m d:Nat) (hV:RdV w P (.slice A n c) p.vs) (hF:RdF w P (.slice B m d) p.fs):
  Calls prog 17 #[.agg #[.slice A n c, .slice B m d]] w fun e w'=>Ext w w'/\ ∃A' n' c' B' m' d',e= .returned (.agg #[.slice A' n' c', .slice B' m' d'])/\RdV w' (fun b=>P b\/w.heap.size<=b) (.slice A' n' c') p.vs/\RdF w' (fun b=>P b\/w.heap.size<=b) (.slice B' m' d') p.fs:=by
 obtain⟨vs,fs⟩:=p;simp only at*;have hnv:n=vs.length:=by obtain⟨A',c',hh,_⟩:=hV;injection hh
 have hnf:m=fs.length:=by obtain⟨A',c',hh,_⟩:=hF;injection hh
 rw[<-hnv]at hv;rw[<-hnf]at hf;have HNV:=hide hnv;have HNF:=hide hnf;have HV:=hide hV;have HF:=hide hF;have HBD:=hide hb;have HP0:=hide (po_new 33 26 w (.slice A n c) (.slice B m d));have HO0:=hide (OwnQ.nil_ 96 73 (QO w P) (((w.alloc (.cells #[.slice A n c, .slice B m d] 33)).alloc (.cells #[.slice none 0 0, .slice none 0 0] 26)).alloc (.cells #[.slice none 0 0, .slice none 0 0] 26)) (w.heap.size+3));clear hnv hnf hV hF hb;have c0:=HP0.out.bs.cell;go_enter func17,ntmps17;go_wp2_with fail
 go_loopw [4] (fun vi wr=> ∃(j:Nat) (C:Option Addr) (cap:Nat),vi= .int .i64 (j:Int)/\j<=n/\Hid (PO 33 26 w (.slice A n c) (.slice B m d) (.slice C j cap) (.slice none 0 0) wr)/\Hid (OwnQ 96 73 (QO w P) wr (w.heap.size+3) (.slice C j cap) (.slice none 0 0) (vs.take j) [])) (fun vi _=>n-(intOf vi).toNat)
 case atStart=>exact⟨0,none,0,rfl,Nat.zero_le _,HP0,HO0⟩
 case round=>
  clear c0 HP0 HO0;obtain⟨j,C,cap,rfl,hj,HP,HO⟩:=hrel;have c0:=HP.out.bs.cell;by_cases hlt:j<n
  ·have hlt':(j:Int)<n:=by omega
   have hjl:j<vs.length:=by have:=HNV.out;omega
   obtain⟨b,o,rfl,hb,h0,h1⟩:=rdv_at' HV.out j hjl;have e0:=(HP.out.e.cell b _ hb).trans h0;have e1:=(HP.out.e.cell b _ hb).trans h1;have hbl:b<wr.heap.size:=Nat.lt_of_lt_of_le hb HP.out.e.size;have HT:=hide (show vs.take (j+1)=vs.take j++[vs[j]]from List.take_succ_eq_append_getElem hjl);have hlj:(vs.take j).length=j:=by rw[List.length_take];omega
   generalize vs[j]=x at*;clear h0 h1 hjl;go_wp2_with fail;clear c0;have hrow:=World.ownsRow.lt HO.out.1
   refine wp_region_app 9 12 [(7,fun v=> ∃gb,v= .slice (some ⟨gb,0,none⟩) 1 1,fun v wx=> ∃gb,v= .slice (some ⟨gb,0,none⟩) 1 1/\wr.heap.size<=gb/\Blk wx gb 96 #[.string (str x.nm), .int .i64 x.sz]),
     (8,fun v=> ∃A' cap',v= .slice (some ⟨A',0,none⟩) (j+1) cap',fun v wx=> ∃A' cap',v= .slice (some ⟨A',0,none⟩) (j+1) cap'/\wx.ownsRow (w.heap.size+3) 96 2 v (j+1) (vrRow (vs.take j)++vrC x)/\(some A'=Value.ownBlock (.slice C j cap)\/wr.heap.size<=A'))] 8 (Value.ownBlock (.slice C j cap)) mixed (by kernel_rfl)
    ⟨fun _ _ _ h hx=>(let⟨gb,h1,h2,h3⟩:=h;⟨gb,h1,h2,h3.ext hx⟩),fun _ _ _ h hx=>(let⟨A',cap',h1,h2,h3⟩:=h;⟨A',cap',h1,World.ownsRow.kept h2 (hx.grownBy none) (.inr (by rw[h1];simp[Value.ownBlock])),h3⟩),trivial⟩
    ⟨.inr fun _ _ _ h hx=>(let⟨gb,h1,h2,h3⟩:=h;⟨gb,h1,h2,h3.grown hx (fun e=>by have:=(hrow _ e.symm).2;omega)⟩), .inl rfl,trivial⟩ ?_
   repeat (refine sx ?_ (fun w1 hU=> ?_) ?_;rotate_left;(focus have hpq:=HP.out.grown (grown_un hU) (fun k e=>(hrow k e).1);have f1:=hpq.bs.cell;have f2:=hpq.bo.cell;have hbk:=(grown_un hU).block b hbl (fun e=>by have:=(hrow _ e.symm).1;omega);have g0:=(World.cell?_of_block (w:=wr) (a:=⟨b,o+j*2,none⟩) hbk).trans e0;have g1:=(World.cell?_of_block (w:=wr) (a:=⟨b,o+j*2+1,none⟩) hbk).trans e1;clear hU hpq hbk;go_simp<;>with_reducible rfl);simp only[pq0,pq1,pq2,pq3,pq4])
   refine seq_opaque _ _ (by rfl) rfl ⟨_,0,rfl⟩ (by simp) (fun w6 hU hp K hK=> ?_) ?_
   ·have hs:=(grown_un hU).size;clear hU hp;go_simp;exact hK _ _ (Ext.alloc w6 _) ⟨_,rfl⟩ ⟨_,rfl,hs,Blk.new w6 _ _⟩
   rintro _ ⟨gb,rfl⟩;simp only[pq0,pq1,pq2,pq3,pq4];refine seq_late _ _ (by rfl) rfl ⟨_,0,0,rfl⟩ rfl (fun w6 hT hp K hK=> ?_) ?_
   ·obtain⟨gb',hgb,hz,hB3⟩:=hp _ (.head _) (by kernel_rfl);injection hgb with hgb;injection hgb with hgb;injection hgb with hgb;subst hgb;have hO6:=HO.out.ext hT.un;have hs6:=(HP.out.ex hT.un).lt;have hs7:=hT.un.size;clear hp hT;refine wp_app1 vrt _ _ rfl (w.heap.size+3) _ j (vrRow (vs.take j)) rfl (by have:=hO6.1;rw[hlj]at this;exact this) gb (vrC x) rfl hB3 rfl (vrC_one x) (by omega) (by decide) (by omega) ?_;intro A' cap' w9 hq1 hq2 hq3;exact hK _ _ hq2 ⟨_,_,rfl⟩ ⟨_,_,rfl,hq1,hq3.imp_right (fun e=>by omega)⟩
   rintro _ ⟨A',cap',rfl⟩;simp only[pq0,pq1,pq2,pq3,pq4];repeat (refine sx ?_ (fun w1 hU=> ?_) ?_;rotate_left;(focus go_simp<;>with_reducible rfl);simp only[pq0,pq1,pq2,pq3,pq4])
   intro w8 hw8 hp;obtain⟨A2,cap2,hv2,hq1,hA⟩:=hp _ (.head _);injection hv2 with hv2 _ hv3;injection hv2 with hv2;injection hv2 with hv2;subst hv2 hv3;clear hp;simp only[List.drop_succ_cons,List.drop_zero];have hg8:=grown_un hw8;have HP8:=hide (HP.out.grown hg8 (fun k e=>(hrow k e).1));have HO8:=hide (HO.out.snocV hlj hq1 hg8 hA);rw[<-HT.out]at HO8;have HP9:=hide (HP8.out.putV (.slice (some ⟨A',0,none⟩) (j+1) cap'));have HO9:=hide (HO8.out.far (b:=w.heap.size+1+1) (i:=0) (by omega) (by omega) (.slice (some ⟨A',0,none⟩) (j+1) cap'));have d0:=HP8.out.bo.cell;have z0:=HP8.out.bo.frozen;clear hw8 hg8 hq1 hA hrow HO HP HO8 HT hlj e0 e1;go_wp2_with fail;go_roundw
   case rel=>exact⟨j+1,_,_,by go_num,by omega,HP9,HO9⟩
   case measure=>simp[intOf];omega
  ·have hlt': ¬(j:Int)<n:=by omega
   have hjn:j=n:=by omega
   have HO1:=hide (show OwnQ 96 73 (QO w P) wr (w.heap.size+3) (.slice C j cap) (.slice none 0 0) vs ([].map id) by
    have:=HO.out;rw[List.take_of_length_le (by have:=HNV.out;omega)]at this
    exact this)
   clear HO;obtain⟨vv,hvv⟩: ∃vv,Value.slice C j cap=vv:=⟨_,rfl⟩
   rw[hvv]at HO1 HP;have HVV:=hide hvv;clear hvv hjn hj hlt c0;have c0:=HP.out.bs.cell;go_wp2_with fail
   go_loopw [5] (fun vi wr=> ∃(j:Nat) (acc:List FV) (C:Option Addr) (cap:Nat),vi= .int .i64 (j:Int)/\j<=m/\Hid (acc.map (·.c)=fs.take j)/\Hid (acc.length=j)/\Hid (PO 33 26 w (.slice A n c) (.slice B m d) vv (.slice C j cap) wr)/\Hid (OwnQ 96 73 (QO w P) wr (w.heap.size+3) vv (.slice C j cap) vs acc)) (fun vi _=>m-(intOf vi).toNat)
   case atStart=>exact⟨0,[],none,0,rfl,Nat.zero_le _,hide rfl,hide rfl,HP,HO1⟩
   case round=>
    clear c0 HP HO1;obtain⟨j,acc,C,cap,rfl,hj,HM,HL,HP,HO⟩:=hrel;have c0:=HP.out.bs.cell;by_cases hlt:j<m
    ·have hlt':(j:Int)<m:=by omega
     have hjl:j<fs.length:=by have:=HNF.out;omega
     obtain⟨b,o,pv,bv,rfl,hb,h0,h1,h2,hRp,hRb⟩:=rdf_at' HF.out j hjl;have e0:=(HP.out.e.cell b _ hb).trans h0;have e1:=(HP.out.e.cell b _ hb).trans h1;have e2:=(HP.out.e.cell b _ hb).trans h2;have hbl:b<wr.heap.size:=Nat.lt_of_lt_of_le hb HP.out.e.size;have HT:=hide (show fs.take (j+1)=fs.take j++[fs[j]]from List.take_succ_eq_append_getElem hjl);have hwx:=HBD.out _ (List.getElem_mem hjl);generalize fs[j]=x at*;have hlp: ∃A' c',pv= .slice A' x.ps.length c':=by obtain⟨A',c',hh,_⟩:=hRp;exact⟨A',c',hh⟩
     obtain⟨A3,c3,rfl⟩:=hlp;obtain⟨B3,d3,rfl,_⟩:=hRb.form;have HRp:=hide hRp;have hrow:=World.ownsRow.lt HO.out.2.1;have hrow1:=World.ownsRow.lt HO.out.1;have HCB:=hide (fun(W:World) (h:wr.grownBy W (Value.ownBlock (.slice C j cap)))=>own_s hwx P W (.slice B3 x.body.length d3) (hRb.keep ⟨Nat.le_trans HP.out.e.size h.size,fun b _ hb=>(h.block b (Nat.lt_of_lt_of_le hb HP.out.e.size) (fun e=>by have:=(hrow _ e.symm).1;omega)).trans (HP.out.e.obj hb)⟩ (fun _ hb _=>hb)));clear h0 h1 h2 hjl hRp hRb hwx;go_wp2_with fail;clear c0
     refine wp_region_app 24 12 [(20,fun v=> ∃A c,v= .slice A x.body.length c,fun v wx=>RdS wx (fun b=>wr.heap.size<=b) v x.body),
       (22,fun v=> ∃gb,v= .slice (some ⟨gb,0,none⟩) 1 1,fun v wx=> ∃gb B4 d4,v= .slice (some ⟨gb,0,none⟩) 1 1/\wr.heap.size<=gb/\Blk wx gb 73 #[.string (str x.nm), .slice A3 x.ps.length c3, .slice B4 x.body.length d4]/\RdS wx (fun b=>wr.heap.size<=b) (.slice B4 x.body.length d4) x.body),
       (23,fun v=> ∃A' cap',v= .slice (some ⟨A',0,none⟩) (j+1) cap',fun v wx=> ∃A' cap' B4 d4,v= .slice (some ⟨A',0,none⟩) (j+1) cap'/\wx.ownsRow (w.heap.size+3) 73 3 v (j+1) (fcRow acc++fcC ⟨x, .slice A3 x.ps.length c3, .slice B4 x.body.length d4⟩)/\(some A'=Value.ownBlock (.slice C j cap)\/wr.heap.size<=A')/\RdS wx (fun b=>wr.heap.size<=b/\b≠A') (.slice B4 x.body.length d4) x.body)] 23 (Value.ownBlock (.slice C j cap)) mixed (by kernel_rfl)
      ⟨fun _ _ _ h hx=>h.keep (.of_ext hx) (fun _ hb _=>hb),fun _ _ _ h hx=>(let⟨gb,B4,d4,h1,h2,h3,h4⟩:=h;⟨gb,B4,d4,h1,h2,h3.ext hx,h4.keep (.of_ext hx) (fun _ hb _=>hb)⟩),fun _ _ _ h hx=>(let⟨A',cap',B4,d4,h1,h2,h3,h4⟩:=h;⟨A',cap',B4,d4,h1,World.ownsRow.kept h2 (hx.grownBy none) (.inr (by rw[h1];simp[Value.ownBlock])),h3,h4.keep (.of_ext hx) (fun _ hb _=>hb)⟩),trivial⟩
      ⟨.inr fun _ _ _ h hx=>h.keep (.of_grown hx fun b hb e=>by have:=(hrow _ e.symm).2;omega) (fun _ hb _=>hb), .inr fun _ _ _ h hx=>(let⟨gb,B4,d4,h1,h2,h3,h4⟩:=h;⟨gb,B4,d4,h1,h2,h3.grown hx (fun e=>by have:=(hrow _ e.symm).2;omega),h4.keep (.of_grown hx fun b hb e=>by have:=(hrow _ e.symm).2;omega) (fun _ hb _=>hb)⟩), .inl rfl,trivial⟩ ?_
     repeat (refine sx ?_ (fun w1 hU=> ?_) ?_;rotate_left;(focus have hpq:=HP.out.grown (grown_un hU) (fun k e=>(hrow k e).1);have f1:=hpq.bs.cell;have f2:=hpq.bo.cell;have hbk:=(grown_un hU).block b hbl (fun e=>by have:=(hrow _ e.symm).1;omega);have g0:=(World.cell?_of_block (w:=wr) (a:=⟨b,o+j*3,none⟩) hbk).trans e0;have g1:=(World.cell?_of_block (w:=wr) (a:=⟨b,o+j*3+1,none⟩) hbk).trans e1;have g2:=(World.cell?_of_block (w:=wr) (a:=⟨b,o+j*3+2,none⟩) hbk).trans e2;clear hU hpq hbk;go_simp<;>with_reducible rfl);simp only[pq0,pq1,pq2,pq3,pq4])
     refine seq_opaque _ _ (by rfl) rfl ⟨_,none,0,rfl⟩ (by simp) (fun w6 hU hp K hK=> ?_) ?_
     ·clear hp;have hc:=HCB.out w6 (grown_un hU);have hs:=(grown_un hU).size;clear hU;go_simp;refine hc.mono ?_;rintro e w7 ⟨hE,A4,c4,rfl,hR3⟩;exact hK _ _ hE ⟨_,_,rfl⟩ (hR3.mono (fun b hb _=>Nat.le_trans hs hb))
     rintro _ ⟨A4,c4,rfl⟩;simp only[pq0,pq1,pq2,pq3,pq4];repeat (refine sx ?_ (fun w1 hU=> ?_) ?_;rotate_left;(focus go_simp<;>with_reducible rfl);simp only[pq0,pq1,pq2,pq3,pq4])
     refine seq_opaque _ _ (by rfl) rfl ⟨_,0,rfl⟩ (by simp) (fun w6 hU hp K hK=> ?_) ?_
     ·have h3:RdS w6 (fun b=>wr.heap.size<=b) (.slice A4 x.body.length c4) x.body:=hp _ (.head _) (by kernel_rfl);have hs:=(grown_un hU).size;clear hU hp;go_simp;exact hK _ _ (Ext.alloc w6 _) ⟨_,rfl⟩ ⟨_,_,_,rfl,hs,Blk.new w6 _ _,h3.keep (.of_ext (Ext.alloc w6 _)) (fun _ hb _=>hb)⟩
     rintro _ ⟨gb,rfl⟩;simp only[pq0,pq1,pq2,pq3,pq4];refine seq_late _ _ (by rfl) rfl ⟨_,0,0,rfl⟩ rfl (fun w6 hT hp K hK=> ?_) ?_
     ·obtain⟨gb',B4,d4,hgb,hz,hB3,hR3⟩:=hp _ (.head _) (by kernel_rfl);injection hgb with hgb;injection hgb with hgb;injection hgb with hgb;subst hgb;have hO6:=HO.out.ext hT.un;have hs6:=(HP.out.ex hT.un).lt;have hs7:=hT.un.size;have hl8:=HL.out;clear hp hT;refine wp_app1 fct _ _ rfl (w.heap.size+3) _ j (fcRow acc) rfl (by have:=hO6.2.1;rw[hl8]at this;exact this) gb (fcC ⟨x, .slice A3 x.ps.length c3, .slice B4 x.body.length d4⟩) rfl hB3 rfl (fcC_one _ _ _ _ _ _ _) (by omega) (by decide) (by omega) ?_;intro A' cap' w9 hq1 hq2 hq3;exact hK _ _ hq2 ⟨_,_,rfl⟩ ⟨_,_,_,_,rfl,hq1,hq3.imp_right (fun e=>by omega),hR3.keep (.of_grown hq2 fun b hb e=>by have:=(hrow _ e.symm).2;omega) (fun b hb hlt=>⟨hb,fun e=>by rcases hq3 with hq3|hq3;(have:=(hrow _ hq3.symm).2;omega);omega⟩)⟩
     rintro _ ⟨A',cap',rfl⟩;simp only[pq0,pq1,pq2,pq3,pq4];repeat (refine sx ?_ (fun w1 hU=> ?_) ?_;rotate_left;(focus go_simp<;>with_reducible rfl);simp only[pq0,pq1,pq2,pq3,pq4])
     intro w8 hw8 hp;obtain⟨A2,cap2,B4,d4,hv2,hq1,hA,hR4⟩:=hp _ (.head _);injection hv2 with hv2 _ hv3;injection hv2 with hv2;injection hv2 with hv2;subst hv2 hv3;clear hp;simp only[List.drop_succ_cons,List.drop_zero];have hg8:=grown_un hw8;have hlw:=HP.out.lt;have HP8:=hide (HP.out.grown hg8 (fun k e=>(hrow k e).1));have hok:FV.ok w8 (fun b=>QO w P b/\some b≠vv.ownBlock/\b≠A') ⟨x, .slice A3 x.ps.length c3, .slice B4 x.body.length d4⟩:=by
      refine⟨HRp.out.keep (.of_ext HP8.out.e) (fun b hb hlt=>⟨.inl ⟨hb,hlt⟩,fun e=>by have:=(hrow1 b e.symm).1;omega,fun e=>by rcases hA with hA|hA;(have:=(hrow _ hA.symm).1;omega);omega⟩),hR4.mono (fun b hb hlt=>⟨.inr (by omega),fun e=>by have:=(hrow1 b e.symm).2;omega,hb.2⟩)⟩
     have HO8:=hide (HO.out.snocF hok HL.out hq1 hg8 hA);have HP9:=hide (HP8.out.putF (.slice (some ⟨A',0,none⟩) (j+1) cap'));have HO9:=hide (HO8.out.far (b:=w.heap.size+1+1) (i:=1) (by omega) (by omega) (.slice (some ⟨A',0,none⟩) (j+1) cap'));have HM9:=hide (show(acc++[FV.mk x (.slice A3 x.ps.length c3) (.slice B4 x.body.length d4)]).map (·.c)=fs.take (j+1) by rw[HT.out,List.map_append,HM.out];rfl);have HL9:=hide (show(acc++[FV.mk x (.slice A3 x.ps.length c3) (.slice B4 x.body.length d4)]).length=j+1 by rw[List.length_append,HL.out];rfl);have d0:=HP8.out.bo.cell;have z0:=HP8.out.bo.frozen;clear hw8 hg8 hq1 hA hrow hrow1 HO HP HO8 HT HM HL e0 e1 e2 hok hR4 hlw;go_wp2_with fail;go_roundw
     case rel=>exact⟨j+1,_,_,_,by go_num,by omega,HM9,HL9,HP9,HO9⟩
     case measure=>simp[intOf];omega
    ·have hlt': ¬(j:Int)<m:=by omega
     obtain⟨hrv,hrf⟩:=HO.out.rd (fun b hb=> .inr hb);rw[HM.out,List.take_of_length_le (by have:=HNF.out;omega)]at hrf;have hkk:=kq_trans (qo_set (P:=P) (w:=w) (W:=wr) (b:=w.heap.size+1) (i:=0) vv (by omega) (by omega)) (qo_set (P:=P) (w:=w) (b:=w.heap.size+1) (i:=1) (.slice C j cap) (by omega) (by omega));have HRV:=hide (hrv.keep hkk (Q:=fun b=>P b\/w.heap.size<=b) (fun b hb _=>by rcases hb with hb|hb;(exact .inl hb.1);(exact .inr (by omega))));have HRF:=hide (hrf.keep hkk (Q:=fun b=>P b\/w.heap.size<=b) (fun b hb _=>by rcases hb with hb|hb;(exact .inl hb.1);(exact .inr (by omega))));have HE9:=hide ((HP.out.e.set (p:=⟨w.heap.size+1,0,none⟩) (by show w.heap.size<=w.heap.size+1;omega) vv).set (p:=⟨w.heap.size+1,1,none⟩) (by show w.heap.size<=w.heap.size+1;omega) (.slice C j cap));have hB9:=(HP.out.bz.set 0 vv).set 1 (.slice C j cap);have hz9:=hB9.cell;have d0:=HP.out.bo.cell;have d1:=HP.out.bz.cell;have z1:=HP.out.bz.frozen;clear hrv hrf hkk HO HM HL hB9;have hvv:=HVV.out;subst hvv;go_wp2_with fail;refine bodyPost_ret (v:= .agg #[.slice _ _ _, .slice C j cap]) ?_ rfl ⟨HE9.out,_,_,_,_,_,_,rfl,HRV.out,HRF.out⟩;simp[results,results17,go_sem,hz9]
end Go.Proofs.YtelplgkppalmfaaGreatDoor
namespace Go.Proofs.YtelplgkppalmfaaGreatDoor
open Go.Proofs.Tryz
open Go.RowKit
def SzE (xs:List Ex):Prop:= ∀(P:Nat->Prop) (w:World) (u:Value),RdE w P u xs->Calls prog 90 #[u] w fun e w'=>(∃k:Int,e= .returned (.int .i64 k))/\Ext w w'
def SzS (xs:List St):Prop:= ∀(P:Nat->Prop) (w:World) (u:Value),RdS w P u xs->Calls prog 43 #[u] w fun e w'=>(∃k:Int,e= .returned (.int .i64 k))/\Ext w w'
theorem sz_estep (xs:List Ex) (hl:xs.length<=1073741824) (hIH: ∀x,x∈xs->SzE x.args):SzE xs:=by
 intro P w u hu;obtain⟨A,c,rfl,_⟩:=hu.form;obtain⟨n,hn⟩: ∃n,xs.length=n:=⟨_,rfl⟩
 rw[hn]at hu hl;rw[hn];have HN:=hide hn;have HR:=hide hu;have HI:=hide hIH;clear hu hIH hn;go_enter func90,ntmps90;go_wp2_with fail
 go_loopw [3,4] (fun vo vi wr=> ∃(j:Nat) (k:Int),vi= .int .i64 (j:Int)/\vo= .int .i64 k/\j<=n/\Hid (Ext w wr)) (fun vo vi _=>n-(intOf vi).toNat)
 case atStart=>exact⟨0,0,rfl,rfl,Nat.zero_le _,hide (Ext.refl w)⟩
 case round=>
  obtain⟨j,k,rfl,rfl,hj,HX⟩:=hrel;by_cases hlt:j<n
  ·have hlt':(j:Int)<n:=by omega
   have hjl:j<xs.length:=by have:=HN.out;omega
   obtain⟨b,o,a,rfl,hb,hP,h0,h1,h2,h3,h4,h5,hRa⟩:=HR.out.at_ j hjl;have hbl:b<wr.heap.size:=Nat.lt_of_lt_of_le hb HX.out.size;have hIx:=HI.out _ (List.getElem_mem hjl);generalize xs[j]=x at*;have e5:=(HX.out.cell b _ hb).trans h5;obtain⟨A2,c2,rfl,_⟩:=hRa.form;have HC:=hide (hIx P wr _ (hRa.keep (.of_ext HX.out) (fun b hb _=>hb)));clear h0 h1 h2 h3 h4 h5 hRa hIx;go_wp2_with (go_at_call 90;refine HC.out.mono ?_;rintro e w1 ⟨⟨q,rfl⟩,hE⟩;have HX1:=hide (HX.out.trans hE);clear hE HC);go_roundw
   case rel=>exact⟨j+1,_,by go_num,rfl,by omega,HX1⟩
   case measure=>simp[intOf];omega
  ·have hlt': ¬(j:Int)<n:=by omega
   go_wp2_with fail;go_ret;exact⟨⟨_,rfl⟩,HX.out⟩
theorem sz_eall: ∀(k:Nat) (xs:List Ex),wtL xs<k->k<=1000000001->SzE xs
 |0,xs,h,_=>absurd h (Nat.not_lt_zero _)
 |k+1,xs,h,hk=>sz_estep xs (by have:=wtL_length xs;omega) (fun x hx=>sz_eall k x.args (by have:=wtL_mem hx;have:=x.wt_eq;omega) (by omega))
theorem sz_e {xs:List Ex} (h:wtL xs<=1000000000):SzE xs:=sz_eall _ xs (Nat.lt_succ_self _) (by omega)
theorem sz_sstep (xs:List St) (hl:xs.length<=1073741824) (hIH: ∀x,x∈xs->SzE x.ex/\SzS x.body/\SzS x.els):SzS xs:=by
 intro P w u hu;obtain⟨A,c,rfl,_⟩:=hu.form;obtain⟨n,hn⟩: ∃n,xs.length=n:=⟨_,rfl⟩
 rw[hn]at hu hl;rw[hn];have HN:=hide hn;have HR:=hide hu;have HI:=hide hIH;clear hu hIH hn;go_enter func43,ntmps43;go_wp2_with fail
 go_loopw [3,4] (fun vo vi wr=> ∃(j:Nat) (k:Int),vi= .int .i64 (j:Int)/\vo= .int .i64 k/\j<=n/\Hid (Ext w wr)) (fun vo vi _=>n-(intOf vi).toNat)
 case atStart=>exact⟨0,0,rfl,rfl,Nat.zero_le _,hide (Ext.refl w)⟩
 case round=>
  obtain⟨j,k,rfl,rfl,hj,HX⟩:=hrel;by_cases hlt:j<n
  ·have hlt':(j:Int)<n:=by omega
   have hjl:j<xs.length:=by have:=HN.out;omega
   obtain⟨b,o,a,g,z,rfl,hb,hP,h0,h1,h2,h3,h4,hRa,hRb,hRc⟩:=HR.out.at_ j hjl;have hbl:b<wr.heap.size:=Nat.lt_of_lt_of_le hb HX.out.size;have hIx:=HI.out _ (List.getElem_mem hjl);generalize xs[j]=x at*;have e2:=(HX.out.cell b _ hb).trans h2;have e3:=(HX.out.cell b _ hb).trans h3;have e4:=(HX.out.cell b _ hb).trans h4;obtain⟨A2,c2,rfl,_⟩:=hRa.form;obtain⟨B2,d2,rfl,_⟩:=hRb.form;obtain⟨C2,i2,rfl,_⟩:=hRc.form;have HC:=hide (fun(W:World) (h:Ext wr W)=>hIx.1 P W _ (hRa.keep (.of_ext (HX.out.trans h)) (fun b hb _=>hb)));have HC1:=hide (fun(W:World) (h:Ext wr W)=>hIx.2.1 P W _ (hRb.keep (.of_ext (HX.out.trans h)) (fun b hb _=>hb)));have HC2:=hide (fun(W:World) (h:Ext wr W)=>hIx.2.2 P W _ (hRc.keep (.of_ext (HX.out.trans h)) (fun b hb _=>hb)));clear h0 h1 h2 h3 h4 hRa hRb hRc hIx;go_wp2_with fail;refine wp_region_ext 23 12 [(6,fun v=> ∃k:Int,v= .int .i64 k,fun _ _=>True),(13,fun v=> ∃k:Int,v= .int .i64 k,fun _ _=>True),(20,fun v=> ∃k:Int,v= .int .i64 k,fun _ _=>True)] mixed (by kernel_rfl)
    ⟨fun _ _ _ _ _=>trivial,fun _ _ _ _ _=>trivial,fun _ _ _ _ _=>trivial,trivial⟩ ?_
   repeat (refine sx ?_ (fun w1 hU=> ?_) ?_;rotate_left;(focus have g2:=(hU.un.cell b _ hbl).trans e2;clear hU;go_simp<;>with_reducible rfl);simp only[pq0,pq1,pq2,pq3,pq4])
   refine seq_opaque _ _ (by rfl) rfl ⟨_,0,rfl⟩ (by simp) (fun w6 hU hp K hK=> ?_) ?_
   ·have hc:=HC.out w6 hU.un;clear hp hU;go_simp;refine hc.mono ?_;rintro e w7 ⟨⟨q,rfl⟩,hE⟩;exact hK _ _ hE ⟨_,rfl⟩ trivial
   rintro _ ⟨k1,rfl⟩;simp only[pq0,pq1,pq2,pq3,pq4];repeat (refine sx ?_ (fun w1 hU=> ?_) ?_;rotate_left;(focus have g3:=(hU.un.cell b _ hbl).trans e3;clear hU;go_simp<;>with_reducible rfl);simp only[pq0,pq1,pq2,pq3,pq4])
   refine seq_opaque _ _ (by rfl) rfl ⟨_,0,rfl⟩ (by simp) (fun w6 hU hp K hK=> ?_) ?_
   ·have hc:=HC1.out w6 hU.un;clear hp hU;go_simp;refine hc.mono ?_;rintro e w7 ⟨⟨q,rfl⟩,hE⟩;exact hK _ _ hE ⟨_,rfl⟩ trivial
   rintro _ ⟨k2,rfl⟩;simp only[pq0,pq1,pq2,pq3,pq4];repeat (refine sx ?_ (fun w1 hU=> ?_) ?_;rotate_left;(focus have g4:=(hU.un.cell b _ hbl).trans e4;clear hU;go_simp<;>with_reducible rfl);simp only[pq0,pq1,pq2,pq3,pq4])
   refine seq_opaque _ _ (by rfl) rfl ⟨_,0,rfl⟩ (by simp) (fun w6 hU hp K hK=> ?_) ?_
   ·have hc:=HC2.out w6 hU.un;clear hp hU;go_simp;refine hc.mono ?_;rintro e w7 ⟨⟨q,rfl⟩,hE⟩;exact hK _ _ hE ⟨_,rfl⟩ trivial
   rintro _ ⟨k3,rfl⟩;simp only[pq0,pq1,pq2,pq3,pq4];repeat (refine sx ?_ (fun w1 hU=> ?_) ?_;rotate_left;(focus go_simp<;>with_reducible rfl);simp only[pq0,pq1,pq2,pq3,pq4])
   intro w8 hw8 hp;clear hp;simp only[List.drop_succ_cons,List.drop_zero];have HX8:=hide (HX.out.trans hw8.un);clear hw8;go_wp2_with fail;go_roundw
   case rel=>exact⟨j+1,_,by go_num,rfl,by omega,HX8⟩
   case measure=>simp[intOf];omega
  ·have hlt': ¬(j:Int)<n:=by omega
   go_wp2_with fail;go_ret;exact⟨⟨_,rfl⟩,HX.out⟩
theorem sz_sall: ∀(k:Nat) (xs:List St),wtS xs<k->k<=1000000001->SzS xs
 |0,xs,h,_=>absurd h (Nat.not_lt_zero _)
 |k+1,xs,h,hk=>sz_sstep xs (by have:=wtS_length xs;omega) (fun x hx=>⟨sz_e (by have:=wtS_mem hx;have:=x.wt_eq;omega),sz_sall k x.body (by have:=wtS_mem hx;have:=x.wt_eq;omega) (by omega),sz_sall k x.els (by have:=wtS_mem hx;have:=x.wt_eq;omega) (by omega)⟩)
theorem sz_s {xs:List St} (h:wtS xs<=1000000000):SzS xs:=sz_sall _ xs (Nat.lt_succ_self _) (by omega)
theorem few_any (p:Pg) (hv:p.vs.length<=1000000000) (hf:p.fs.length<=1000000000) (hb: ∀f,f∈p.fs->wtS f.body<=1000000000) (P:Nat->Prop) (w:World) (A B:Option Addr) (n c m d:Nat) (hV:RdV w P (.slice A n c) p.vs) (hF:RdF w P (.slice B m d) p.fs):
  Calls prog 15 #[.agg #[.slice A n c, .slice B m d]] w fun e w'=>(∃b:Bool,e= .returned (.bool b))/\Ext w w':=by
 obtain⟨vs,fs⟩:=p;simp only at*;have hnv:n=vs.length:=by obtain⟨A',c',hh,_⟩:=hV;injection hh
 have hnf:m=fs.length:=by obtain⟨A',c',hh,_⟩:=hF;injection hh
 rw[<-hnv]at hv;rw[<-hnf]at hf;have HNF:=hide hnf;have HF:=hide hF;have HBD:=hide hb;have HE0:=hide (Ext.alloc w (.cells #[.slice A n c, .slice B m d] 33));have HB0:=hide (Blk.new w 33 #[.slice A n c, .slice B m d]);have hwr:IntKind.i64.wrap ((n:Int)+m)=n+m:=by simp[IntKind.wrap,IntKind.signed,IntKind.bits];omega
 clear hnv hnf hV hF hb;have c0:=HB0.out.cell;go_enter func15,ntmps15;go_wp2_with fail
 go_loopw [3,4] (fun vo vi wr=> ∃(j:Nat) (k:Int),vi= .int .i64 (j:Int)/\vo= .int .i64 k/\j<=m/\Hid (Ext w wr)/\Hid (Blk wr w.heap.size 33 #[.slice A n c, .slice B m d])) (fun vo vi _=>m-(intOf vi).toNat)
 case atStart=>exact⟨0,0,rfl,rfl,Nat.zero_le _,HE0,HB0⟩
 case round=>
  clear c0 HE0 HB0;obtain⟨j,k,rfl,rfl,hj,HX,HB⟩:=hrel;have c0:=HB.out.cell;by_cases hlt:j<m
  ·have hlt':(j:Int)<m:=by omega
   have hjl:j<fs.length:=by have:=HNF.out;omega
   obtain⟨b,o,pv,bv,rfl,hb,h0,h1,h2,hRp,hRb⟩:=rdf_at' HF.out j hjl;have e1:=(HX.out.cell b _ hb).trans h1;have e2:=(HX.out.cell b _ hb).trans h2;have hbl:b<wr.heap.size:=Nat.lt_of_lt_of_le hb HX.out.size;have hwx:=HBD.out _ (List.getElem_mem hjl);generalize fs[j]=x at*;have hlp: ∃A' c',pv= .slice A' x.ps.length c':=by obtain⟨A',c',hh,_⟩:=hRp;exact⟨A',c',hh⟩
   obtain⟨A3,c3,rfl⟩:=hlp;obtain⟨B3,d3,rfl,_⟩:=hRb.form;have HC:=hide (fun(W:World) (h:Ext wr W)=>sz_s hwx P W _ (hRb.keep (.of_ext (HX.out.trans h)) (fun b hb _=>hb)));clear h0 h1 h2 hRp hRb hwx;go_wp2_with fail;clear c0;refine wp_region_ext 17 12 [(14,fun v=> ∃k:Int,v= .int .i64 k,fun _ _=>True)] mixed (by kernel_rfl) ⟨fun _ _ _ _ _=>trivial,trivial⟩ ?_;repeat (refine sx ?_ (fun w1 hU=> ?_) ?_;rotate_left;(focus have f1:=(HB.out.ext hU.un).cell;have g1:=(hU.un.cell b _ hbl).trans e1;have g2:=(hU.un.cell b _ hbl).trans e2;clear hU;go_simp<;>with_reducible rfl);simp only[pq0,pq1,pq2,pq3,pq4])
   refine seq_opaque _ _ (by rfl) rfl ⟨_,0,rfl⟩ (by simp) (fun w6 hU hp K hK=> ?_) ?_
   ·have hc:=HC.out w6 hU.un;clear hp hU;go_simp;refine hc.mono ?_;rintro e w7 ⟨⟨q,rfl⟩,hE⟩;exact hK _ _ hE ⟨_,rfl⟩ trivial
   rintro _ ⟨k1,rfl⟩;simp only[pq0,pq1,pq2,pq3,pq4];repeat (refine sx ?_ (fun w1 hU=> ?_) ?_;rotate_left;(focus go_simp<;>with_reducible rfl);simp only[pq0,pq1,pq2,pq3,pq4])
   intro w8 hw8 hp;clear hp;simp only[List.drop_succ_cons,List.drop_zero];have HX8:=hide (HX.out.trans hw8.un);have HB8:=hide (HB.out.ext hw8.un);clear hw8;go_wp2_with fail;go_roundw
   case rel=>exact⟨j+1,_,by go_num,rfl,by omega,HX8,HB8⟩
   case measure=>simp[intOf];omega
  ·have hlt': ¬(j:Int)<m:=by omega
   by_cases h1:(n:Int)+m<=60
   ·by_cases h2:k<=600
    ·go_wp2_with fail;go_ret;first|exact⟨.inl rfl,HX.out⟩|exact⟨.inr rfl,HX.out⟩
    ·go_wp2_with fail;go_ret;first|exact⟨.inl rfl,HX.out⟩|exact⟨.inr rfl,HX.out⟩
   ·go_wp2_with fail;go_ret;first|exact⟨.inl rfl,HX.out⟩|exact⟨.inr rfl,HX.out⟩
end Go.Proofs.YtelplgkppalmfaaGreatDoor
