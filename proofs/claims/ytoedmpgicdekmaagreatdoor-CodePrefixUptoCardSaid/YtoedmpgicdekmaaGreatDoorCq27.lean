/-
  Parts of the proof: OpenFl CpJ CpI.
-/
import Derived.Test.YtoedmpgicdekmaaGreatDoorCq00
import Derived.Test.YtoedmpgicdekmaaGreatDoorCq21
import Derived.Test.YtoedmpgicdekmaaGreatDoorCq26
import Derived.Test.YtoedmpgicdekmaaGreatDoorCq25
import Derived.Test.YtoedmpgicdekmaaGreatDoorCq15
set_option maxRecDepth 100000
set_option maxHeartbeats 8000000
set_option linter.unusedVariables false
set_option linter.unusedSimpArgs false
set_option linter.unusedSectionVars false
namespace Go.Proofs.YtoedmpgicdekmaaGreatDoor
open Go.Proofs.Tryz
section
open Go.Joins Go.ChangeShapes Go.WideShapes Go.ChangeAt Go.RowKit Go.Deep
section
variable {H:Type} {enc:TypeId×Value->H} {W:World}
theorem wD {P:Program} {r:Reach} {b0 base:Nat} {sp:Nat->Bool} {hd:Bool} {t:TypeId} {f0 f1 f2 f3:Field} {v:Value} {d:DataW H} {p:List MemPlace} (hs:P.underlying t=some (.struct #[f0,f1,f2,f3])) (hone:oneCellFields P #[f0,f1,f2,f3]=true) (hC:P.cellsOf t=4)
  (hv:Value.okWide P W r b0 t v) (h:DataW.Trod enc P W base sp hd t v d p):
  ∃(v0 v1 v2 v3:Value) (y0 y1 y2 y3:DataW H×List MemPlace) (n:Nat),v= .agg #[v0,v1,v2,v3]/\DataW.trod enc P W base sp hd n f0.type [v0]=some y0/\DataW.trod enc P W base sp hd n f1.type [v1]=some y1/\DataW.trod enc P W base sp hd n f2.type [v2]=some y2/\DataW.trod enc P W base sp hd n f3.type [v3]=some y3:=by
 obtain⟨cs,rfl,hsz⟩:=okWide_struct hs hv;obtain⟨l⟩:=cs
 match l,hsz.trans hC with
 | [c0,c1,c2,c3],_=>
  obtain⟨fuel,hf⟩:=h;obtain⟨xs,n,_,hx,_,hlen,hg⟩:=DataW.trod_struct hs hf;obtain⟨o0,k0⟩:=hone_of hone 0 f0 rfl;obtain⟨o1,k1⟩:=hone_of hone 1 f1 rfl;obtain⟨o2,k2⟩:=hone_of hone 2 f2 rfl;obtain⟨o3,k3⟩:=hone_of hone 3 f3 rfl
  match xs,hlen with
  | [y0,y1,y2,y3],_=>
   exact⟨c0,c1,c2,c3,y0,y1,y2,y3,n,rfl,by simpa[Value.cells,o0,k0]using hg 0 f0 rfl,by simpa[Value.cells,o1,k1]using hg 1 f1 rfl,by simpa[Value.cells,o2,k2]using hg 2 f2 rfl,by simpa[Value.cells,o3,k3]using hg 3 f3 rfl⟩
theorem wC {r:Reach} {b0 base:Nat} {hd:Bool} {v:Value} {d:DataW H} {p:List MemPlace} (hv:Value.okWide prog W r b0 43 v) (h:DataW.Trod enc prog W base (fun _=>true) hd 43 v d p):
  ∃(A B:Option Addr) (c d:Nat) (f:kN),v=f.val A B c d/\Sl W A c f.code/\Sl W B d f.data:=by
 obtain⟨v0,v1,v2,v3,y0,y1,y2,y3,n,rfl,k0,k1,k2,k3⟩:=wD underlying43 (by kernel_rfl) (by kernel_rfl) hv h;obtain⟨A,c,l0,rfl,s0,_⟩:=iR underlying36 underlying5 (by kernel_rfl) (by kernel_rfl) k0;obtain⟨B,d,l1,rfl,s1,_⟩:=iR underlying36 underlying5 (by kernel_rfl) (by kernel_rfl) k1;obtain⟨z2,rfl,_⟩:=ki underlying3 k2;obtain⟨z3,rfl,_⟩:=ki underlying3 k3;exact⟨A,B,c,d,⟨l0,l1,z2,z3⟩,rfl,s0,s1⟩
end
end
section
open Go.RowKit
theorem BK (g:Rg) (b o c:Nat) (b0 b1 b2 b3:UInt8) (ld:Int) (w:World) (hF:FT w) (h4:tn w b o b0 b1 b2 b3) (hc:4<=c) (hc2:c<=maxLen) (hd:eO b0 b1 b2 b3=none):
  Calls prog 92 #[.agg g.cs, .slice (some ⟨b,o,none⟩) 4 c, .int .i64 ld] w fun e w'=>e= .returned (.tuple #[.agg g.cs, .int .i64 0, .agg #[.int .i64 2, .int .i64 1, .int .i64 0, .int .i64 0, .int .i64 0, .int .i64 0, .int .i64 0]])/\au w w':=by
 have HD:=G (fun W (h:au w W)=>show Calls prog 86 #[.slice (some ⟨b,o,none⟩) 4 c] W fun e w'=>e=zC none/\au W w' from by
  have:=ep b o c b0 b1 b2 b3 W (hF.ext h) (h4.ext h) hc hc2;rw[hd]at this
  exact this)
 unfold zC at HD;clear hF h4 hd hc hc2;go_enter func92,ntmps92
 go_upto_region 1 with fail
 generalize hW:World.alloc (World.alloc (World.alloc w _) _) _=W0;obtain⟨hX,r,q,z,s⟩:=CU hW;replace hX:=G hX;clear hW
 go_upto_region 2 with(go_at_call 86;refine(HD.out _ hX.out).mono ?_;rintro e w1 ⟨rfl,hE⟩;clear HD;replace hX:=kx hX hE;replace r:=kb r hE;replace q:=kb q hE;replace z:=kb z hE)
 generalize hW:World.alloc w1 _=W1;obtain⟨hE,x,s1⟩:=jm hW;replace hX:=kx hX hE;replace r:=kb r hE;replace q:=kb q hE;replace z:=kb z hE;clear hW hE;have HEx:=G (fun W=>qV 1 W);have cx:=x.out.cell;have cr:=r.out.cell;have gc:True:=trivial
 go_upto_region 3 with fail
 refine ay 2 2 [(1,fun v=>v= .agg #[.int .i64 2, .int .i64 1, .int .i64 0, .int .i64 0, .int .i64 0, .int .i64 0, .int .i64 0],fun _ _=>True)] mixed (by kernel_rfl) ⟨fun _ _ _ _ _=>trivial,trivial⟩ ?_;clear cx cr gc;refine sx ?_ (fun w1 hU=> ?_) ?_;rotate_left;(focus rw[lS 109 (.tmp 3) rfl w.heap.size rfl _ (cP (kb r hU.un))]);simp only[bH,bG,bF,bE,bD];refine so (fun w6 hU hp K hK=> ?_) ?_
 ·clear hp hU;go_simp;refine(HEx.out w6).mono ?_;rintro e w7 ⟨rfl,hE⟩;exact hK _ _ hE rfl trivial
 rintro _ rfl;simp only[bH,bG,bF,bE,bD];intro w5 hw5 hp;replace hX:=kx hX hw5.un;replace q:=kb q hw5.un;replace z:=kb z hw5.un;have hz2:w.heap.size+1+1<w5.heap.size:=z.out.lt;clear hp hw5 r x;simp only[ac,aq];go_wp2_with (refine wpList_store_row rfl 109 _ _ rfl _ _ rfl rfl _ _ q.out (by kernel_rfl) rfl (eT _) ?_;generalize hW:World.setRow w5 _ _=W7;obtain⟨q7,_,hs,hx⟩:=oQ hW q;replace hX:=hx _ hX (by omega);replace z:=hs _ _ _ (by omega) z;clear hW hs hx q;have cz:=z.out.cell;have fz:=z.out.frozen);generalize hW:World.setCell _ _ _=W8;obtain⟨z8,hs,hx⟩:=la hW z;have q8:=hs _ _ _ (by omega) q7;have hX8:=hx _ hX (by omega);have hl:=cP q8;have ht:=iF z8;clear hs hx hW;refine bodyPost_ret (v:= .tuple #[.agg g.cs, .int .i64 0, .agg #[.int .i64 2, .int .i64 1, .int .i64 0, .int .i64 0, .int .i64 0, .int .i64 0, .int .i64 0]]) ?_ rfl ⟨rfl,hX8.out⟩;simp[results,results92,asAddr,hl,ht]
theorem BL (g:Rg) (b o c:Nat) (b0 b1 b2 b3:UInt8) (x:cQ) (A S:Int) (ld:Int) (w:World) (hF:FT w) (h4:tn w b o b0 b1 b2 b3) (hc:4<=c) (hc2:c<=maxLen) (hd:eO b0 b1 b2 b3=some x) (hb:x.b<16) (hb0:0<=x.b)
  (hrb: -2147483648<=g.r x.b.toNat/\g.r x.b.toNat<=2147483647) (hxc: -200<=x.c/\x.c<=300) (hp:bL g x=(A,S)) (hS:S=1\/S=4) (hA: -5000000000<=A/\A<=5000000000) (hm:A.tmod S≠0):
  Calls prog 92 #[.agg g.cs, .slice (some ⟨b,o,none⟩) 4 c, .int .i64 ld] w fun e w'=>e= .returned (.tuple #[.agg g.cs, .int .i64 0, .agg #[.int .i64 2, .int .i64 3, .int .i64 0, .int .i64 0, .int .i64 0, .int .i64 0, .int .i64 0]])/\au w w':=by
 have HD:=G (fun W (h:au w W)=>show Calls prog 86 #[.slice (some ⟨b,o,none⟩) 4 c] W fun e w'=>e= .returned (.tuple #[x.val, .int .i64 0])/\au W w' from by
  have:=ep b o c b0 b1 b2 b3 W (hF.ext h) (h4.ext h) hc hc2;rw[hd]at this
  exact this)
 have HP:=G (fun W=>show Calls prog 145 #[.agg g.cs,x.val] W fun e w'=>e= .returned (.tuple #[.int .i64 A, .int .i64 S])/\au W w' from by
  have:=fY g x W (by first|exact hrb|simpa using hrb) (by omega) (by omega);rw[hp]at this
  exact this)
 have hS4:S=4:=by
  rcases hS with h|h
  ·subst h;exact absurd (Int.tmod_one A) hm
  ·exact h
 subst hS4;obtain⟨k,ra,rb,rc,v⟩:=x;unfold cQ.val at HD HP;simp only at HD HP;clear hF h4 hd hc hc2 hrb hp hb hb0 hxc hS;go_enter func92,ntmps92
 go_upto_region 1 with fail
 generalize hW:World.alloc (World.alloc (World.alloc w _) _) _=W0;obtain⟨hX,r,q,z,s⟩:=CU hW;replace hX:=G hX;clear hW;replace hm:=G hm
 go_upto_region 2 with(go_at_call 86;refine(HD.out _ hX.out).mono ?_;rintro e w1 ⟨rfl,hE⟩;clear HD;replace hX:=kx hX hE;replace r:=kb r hE;replace q:=kb q hE;replace z:=kb z hE)
 generalize hW:World.alloc w1 _=W1;obtain⟨hE,x,s1⟩:=jm hW;replace hX:=kx hX hE;replace r:=kb r hE;replace q:=kb q hE;replace z:=kb z hE;clear hW hE;have cx:=x.out.cell;have cr:=r.out.cell;have gc:True:=trivial
 go_upto_region 5 with(first|(refine bU rfl 109 _ rfl _ rfl _ (cP r) ?_)|(go_at_call 145;refine(HP.out _).mono ?_;rintro e w2 ⟨rfl,hE⟩;clear HP cx cr;replace hX:=kx hX hE;replace r:=kb r hE;replace q:=kb q hE;replace z:=kb z hE;replace x:=kb x hE;have cx:=x.out.cell;have cr:=r.out.cell;clear hE))
 have HEx:=G (fun W=>qV 3 W);obtain⟨T,hT⟩: ∃T,A.tmod 4=T:=⟨_,rfl⟩
 have hm2:(T==0)=false:=beq_eq_false_iff_ne.2 (hT▸hm.out)
 go_upto_region 6 with fail
 clear hm2 hT hm;generalize (T !=0)=bb;refine ay 2 2 [(1,fun v=>v= .agg #[.int .i64 2, .int .i64 3, .int .i64 0, .int .i64 0, .int .i64 0, .int .i64 0, .int .i64 0],fun _ _=>True)] mixed (by kernel_rfl) ⟨fun _ _ _ _ _=>trivial,trivial⟩ ?_;clear cx cr gc;refine sx ?_ (fun w1 hU=> ?_) ?_;rotate_left;(focus rw[lS 109 (.tmp 3) rfl w.heap.size rfl _ (cP (kb r hU.un))]);simp only[bH,bG,bF,bE,bD];refine so (fun w6 hU hp K hK=> ?_) ?_
 ·clear hp hU;go_simp;refine(HEx.out w6).mono ?_;rintro e w7 ⟨rfl,hE⟩;exact hK _ _ hE rfl trivial
 rintro _ rfl;simp only[bH,bG,bF,bE,bD];intro w5 hw5 hp;replace hX:=kx hX hw5.un;replace q:=kb q hw5.un;replace z:=kb z hw5.un;have hz2:w.heap.size+1+1<w5.heap.size:=z.out.lt;clear hp hw5 r x;simp only[ac,aq];go_wp2_with (refine wpList_store_row rfl 109 _ _ rfl _ _ rfl rfl _ _ q.out (by kernel_rfl) rfl (eT _) ?_;generalize hW:World.setRow w5 _ _=W7;obtain⟨q7,_,hs,hx⟩:=oQ hW q;replace hX:=hx _ hX (by omega);replace z:=hs _ _ _ (by omega) z;clear hW hs hx q;have cz:=z.out.cell;have fz:=z.out.frozen);generalize hW:World.setCell _ _ _=W8;obtain⟨z8,hs,hx⟩:=la hW z;have q8:=hs _ _ _ (by omega) q7;have hX8:=hx _ hX (by omega);have hl:=cP q8;have ht:=iF z8;clear hs hx hW;refine bodyPost_ret (v:= .tuple #[.agg g.cs, .int .i64 0, .agg #[.int .i64 2, .int .i64 3, .int .i64 0, .int .i64 0, .int .i64 0, .int .i64 0, .int .i64 0]]) ?_ rfl ⟨rfl,hX8.out⟩;simp[results,results92,asAddr,hl,ht]
end
section
open Go.RowKit
theorem Fu {S:Nat->Prop} {k:Nat} {w w':World} {t:TypeId} {cs:Array Value} (h:Hid (aP w k t cs)) (hM:Mv S w w') (hk: ¬S k):Hid (aP w' k t cs):=mP hM h hk
def UB (q z:Nat) (w w':World):Prop:=Mv (fun j=>j=q\/j=z) w w'/\(∀t cs,aP w q t cs-> ∃cs',aP w' q t cs'/\cs'.size=cs.size)/\ ∀t cs,aP w z t cs-> ∃cs',aP w' z t cs'/\cs'.size=cs.size
theorem UB.refl (q z:Nat) (w:World):UB q z w w:=⟨fA _ _,fun t cs h=>⟨cs,h,rfl⟩,fun t cs h=>⟨cs,h,rfl⟩⟩
theorem UB.trans (q z:Nat) (a b c:World) (h:UB q z a b) (k:UB q z b c):UB q z a c:=
 ⟨h.1.trans k.1,fun t cs hb=>by obtain⟨c1,h1,h2⟩:=h.2.1 t cs hb;obtain⟨c2,h3,h4⟩:=k.2.1 t c1 h1;exact⟨c2,h3,h4.trans h2⟩,fun t cs hb=>by obtain⟨c1,h1,h2⟩:=h.2.2 t cs hb;obtain⟨c2,h3,h4⟩:=k.2.2 t c1 h1;exact⟨c2,h3,h4.trans h2⟩⟩
theorem UB.row {q z g:Nat} {w w':World} {cells old:Array Value} {t:TypeId} (h:UB q z w w') (hg:g=q\/g=z) (hne:q≠z) (ho:Hid (aP w' g t old)) (hs:old.size=cells.size):UB q z w (w'.setRow g cells):=by
 refine UB.trans _ _ _ _ _ h ?_;obtain⟨hb,_,hk,_⟩:=oQ (w:=w') (g:=g) (c1:=cells) rfl ho;refine⟨⟨rfl,rfl,rfl,by simp,fun k hk hn=>setRow_other w' g k cells fun e=>hn (by rcases hg with rfl|rfl;exact .inl e;exact .inr e)⟩,fun t' cs hc=> ?_,fun t' cs hc=> ?_⟩
 ·by_cases e:q=g
  ·subst e;have hq:some (Obj.cells cs t' (0,0))=some (Obj.cells old t (0,0)):=hc.symm.trans ho.out;injection hq with hq;injection hq with e1 e2;subst e1 e2;exact⟨cells,hb.out,hs.symm⟩
  ·exact⟨cs,(hk q t' cs e (G hc)).out,rfl⟩
 ·by_cases e:z=g
  ·subst e;have hq:some (Obj.cells cs t' (0,0))=some (Obj.cells old t (0,0)):=hc.symm.trans ho.out;injection hq with hq;injection hq with e1 e2;subst e1 e2;exact⟨cells,hb.out,hs.symm⟩
  ·exact⟨cs,(hk z t' cs e (G hc)).out,rfl⟩
theorem u_ (g:Rg) (b o c:Nat) (b0 b1 b2 b3:UInt8) (k ra rb:Nat) (xc xv:Int) (ld:Int) (w:World) (hF:FT w) (h4:tn w b o b0 b1 b2 b3) (hc:4<=c) (hc2:c<=maxLen) (hd:eO b0 b1 b2 b3=some ⟨k,ra,rb,xc,xv⟩) (hk:k=15\/k=17)
  (ha:ra<16) (hb:rb<16) (hpc:0<=g.pc/\g.pc<=1000000) (hrb: -2147483648<=g.r rb/\g.r rb<=2147483647) (hxc: -200<=xc/\xc<=300) (hxv: -32768<=xv/\xv<=32767) (hal:k=15->(g.r rb+xc).tmod 4=0) (hra: -2147483648<=g.r ra/\g.r ra<=2147483647):
  Calls prog 92 #[.agg g.cs, .slice (some ⟨b,o,none⟩) 4 c, .int .i64 ld] w fun e w'=>e= .returned (.tuple #[.agg (Rg.mk g.r (g.pc+4)).cs, .int .i64 (if k=15 then g.r ra else(g.r ra)%256), .agg #[.int .i64 0, .int .i64 0, .int .i64 0, .int .i64 0, .int .i64 0, .int .i64 0, .int .i64 0]])/\au w w':=by
 have HD:=G (fun W (h:au w W)=>show Calls prog 86 #[.slice (some ⟨b,o,none⟩) 4 c] W fun e w'=>e= .returned (.tuple #[.agg #[.int .i64 k, .int .i64 ra, .int .i64 rb, .int .i64 xc, .int .i64 xv], .int .i64 0])/\au W w' from by
  have:=ep b o c b0 b1 b2 b3 W (hF.ext h) (h4.ext h) hc hc2;rw[hd]at this
  exact this)
 have HP:=G (fun W=>show Calls prog 145 #[.agg g.cs, .agg #[.int .i64 k, .int .i64 ra, .int .i64 rb, .int .i64 xc, .int .i64 xv]] W fun e w'=>e= .returned (.tuple #[.int .i64 (bL g ⟨k,ra,rb,xc,xv⟩).1, .int .i64 (bL g ⟨k,ra,rb,xc,xv⟩).2])/\au W w' from
  fY g ⟨k,ra,rb,xc,xv⟩ W (by simpa using hrb) (by simp only;omega) hxc)
 obtain⟨hp0,hp1⟩:=hpc;obtain⟨hv0,hv1⟩:=hxv;have hpw:IntKind.i64.wrap (g.pc+4)=g.pc+4:=by simp[IntKind.wrap,IntKind.signed,IntKind.bits];omega
 have hpv:IntKind.i64.wrap (4*xv)=4*xv:=by simp[IntKind.wrap,IntKind.signed,IntKind.bits];omega
 have hpt:IntKind.i64.wrap (g.pc+4+4*xv)=g.pc+4+4*xv:=by simp[IntKind.wrap,IntKind.signed,IntKind.bits];omega
 clear hF h4 hd hc hc2 hrb hxc;unfold bL at HP;simp only[bP]at HP;have hai:(ra:Int)<16:=by omega
 have hbi:(rb:Int)<16:=by omega
 have hrw:IntKind.i64.wrap (g.r ra)=g.r ra:=by simp[IntKind.wrap,IntKind.signed,IntKind.bits];omega
 rcases hk with rfl|rfl;all_goals
  simp at HP;go_enter func92,ntmps92
  go_upto_region 1 with fail
  generalize hW:World.alloc (World.alloc (World.alloc w _) _) _=W0;obtain⟨hX,r,q,z,s⟩:=CU hW;replace hX:=G hX;clear hW
  go_upto_region 2 with(go_at_call 86;refine(HD.out _ hX.out).mono ?_;rintro e w1 ⟨rfl,hE⟩;have hz1:w.heap.size+1+1<w1.heap.size:=(by have:=s.out;have:=fL hE;omega);clear HD;replace hX:=kx hX hE;replace r:=kb r hE;replace q:=kb q hE;replace z:=kb z hE)
  generalize hW:World.alloc w1 _=W1;obtain⟨hE,x,s1⟩:=jm hW;replace hX:=kx hX hE;replace r:=kb r hE;replace q:=kb q hE;replace z:=kb z hE;clear hW hE;have cx:=x.out.cell;have cr:=r.out.cell
  go_upto_region 5 with(first|(refine bU rfl 109 _ rfl _ rfl _ (cP r) ?_)|(go_at_call 145;refine(HP.out _).mono ?_;rintro e w2 ⟨rfl,hE⟩;clear HP cx cr;replace hX:=kx hX hE;replace r:=kb r hE;replace q:=kb q hE;replace z:=kb z hE;replace x:=kb x hE;have cx:=x.out.cell;have cr:=r.out.cell;clear hE))
  have g16:=jv g
  go_upto_region 9 with fail
  go_upto_region 10 with(first|(refine bU rfl 109 _ rfl _ rfl _ (cP r) ?_)|(refine wpList_store_row rfl 109 _ _ rfl _ _ rfl rfl _ _ (aw _ _ _) (by kernel_rfl) rfl (eT _) ?_))
  generalize hW:World.setRow (World.alloc w2 _) _ _=W3;obtain⟨y,s3,hs,hx⟩:=oQ hW (aw w2 _ _);have hz2:w.heap.size+1+1<w2.heap.size:=z.out.lt;replace r:=hs _ _ _ (by omega) (kb r (aa w2 _));replace q:=hs _ _ _ (by omega) (kb q (aa w2 _));replace z:=hs _ _ _ (by omega) (kb z (aa w2 _));replace x:=hs _ _ _ (by have:=x.out.lt;omega) (kb x (aa w2 _));replace hX:=hx _ (kx hX (aa w2 _)) (by omega);clear hW hs hx cr cx;have cx:=x.out.cell;have cr:=r.out.cell;have fr:=r.out.frozen
  go_upto_region 12 with fail
  generalize hW:World.setCell W3 _ _=W4;obtain⟨s4,hg,hs,hx⟩:=rO hW;replace r:=hg _ _ r;replace q:=hs _ _ _ (by omega) q;replace z:=hs _ _ _ (by omega) z;replace x:=hs _ _ _ (by omega) x;replace y:=hs _ _ _ (by omega) y;replace hX:=hx _ hX (by omega);rw[lH]at r;clear hW hs hg hx cr cx fr;have cx:=x.out.cell;have cr:=r.out.cell;have fr:=r.out.frozen;have cy:=y.out.cell;have gr:=ii ⟨g.r,g.pc+4⟩ ra ha;have gb:=ii g rb hb;simp only at gr
 all_goals
  have hz1':w.heap.size+1+1<W4.heap.size:=z.out.lt
 focus (go_upto_region 26 with fail;refine bY (UB (w.heap.size+1) (w.heap.size+1+1)) (UB.refl _ _) (UB.trans _ _) 6 1 [] [1,2,3,4,5] mixed (by kernel_rfl) (by kernel_rfl) (by kernel_rfl) (by rfl) trivial ?_)
 rotate_left
 focus (go_upto_region 28 with fail;refine bY (UB (w.heap.size+1) (w.heap.size+1+1)) (UB.refl _ _) (UB.trans _ _) 7 1 [] [1,2,3,4,5,6] mixed (by kernel_rfl) (by kernel_rfl) (by kernel_rfl) (by rfl) trivial ?_)
 rotate_left;all_goals
  clear cx cr fr cy;refine sx ?_ (fun w1 hU=> ?_) ?_;rotate_left;(focus rw[lS 109 (.tmp 3) rfl w.heap.size rfl _ (cP (Fu r (Mv.un hU.1) (by omega)))]);simp only[bH,bG,bF,bE,bD];repeat (refine sx ?_ (fun w1 hU=> ?_) ?_;rotate_left;(focus have cr:=(Fu r (Mv.un hU.1) (by omega)).out.cell;clear hU;go_simp<;>with_reducible rfl);simp only[bH,bG,bF,bE,bD])
  intro w5 hw5 hp;clear hp;simp only[ac,aq];obtain⟨cq,bq,sq⟩:=hw5.2.1 _ _ (kt q.out);obtain⟨cz,bz,sz⟩:=hw5.2.2 _ _ (kt z.out);have hX5:=G (show au w w5 from((cE hX.out).trans (Mv.un hw5.1)).ext fun j hj e=>by omega);have U0:=hw5;clear hw5;refine aH (by rfl) (by simp) (fun K hK=> ?_);refine wp_store_row 109 _ _ rfl _ _ rfl rfl _ _ bq (by kernel_rfl) (by rw[sq];rfl) (eT _) ?_;have U1:=UB.row U0 (.inl rfl) (by omega) (G bq) (show cq.size=(Rg.cs ⟨g.r,g.pc+4⟩).size by rw[sq];rfl);refine hK _ _ U1 ?_;clear hK;refine aH (by rfl) (by simp) (fun K hK=> ?_);go_simp;refine hK _ _ U1 ?_;clear hK;obtain⟨q6,_,hs6,hx6⟩:=oQ (w:=w5) (g:=w.heap.size+1) (c1:=(Rg.cs ⟨g.r,g.pc+4⟩)) rfl (G bq);have z6:=hs6 _ _ _ (show w.heap.size+1+1≠w.heap.size+1 by omega) (G bz);have hX6:=hx6 _ hX5 (by omega);clear hs6 hx6 hX5 bq bz U0;generalize World.setRow w5 _ _=w6 at*;refine aH (by rfl) (by simp) (fun K hK=> ?_);refine wp_store_row 181 _ _ rfl _ _ rfl rfl _ _ z6.out (by kernel_rfl) (by rw[sz]) (by simp[Value.oneCell']) ?_;have U2:=UB.row U1 (.inr rfl) (by omega) z6 (show cz.size=(#[.int .i64 0, .int .i64 0, .int .i64 0, .int .i64 0, .int .i64 0, .int .i64 0, .int .i64 0]:Array Value).size by rw[sz]);refine hK _ _ U2 ?_;clear hK;obtain⟨z7,_,hs7,hx7⟩:=oQ (w:=w6) (g:=w.heap.size+1+1) (c1:= #[.int .i64 0, .int .i64 0, .int .i64 0, .int .i64 0, .int .i64 0, .int .i64 0, .int .i64 0]) rfl z6;have q7:=hs7 _ _ _ (show w.heap.size+1≠w.heap.size+1+1 by omega) q6;have hX7:=hx7 _ hX6 (by omega);clear hs7 hx7 U1 U2;generalize World.setRow w6 _ _=w7 at*;refine b_ ?_;go_wp2_with fail;have hl:=cP q7;have ht:=iF z7;refine bodyPost_ret (v:= .tuple #[.agg (Rg.mk g.r (g.pc+4)).cs, .int .i64 _, .agg #[.int .i64 0, .int .i64 0, .int .i64 0, .int .i64 0, .int .i64 0, .int .i64 0, .int .i64 0]]) ?_ rfl ⟨rfl,hX7.out⟩;simp[results,results92,asAddr,hl,ht]<;>(simp[IntKind.wrap,IntKind.signed,IntKind.bits];omega)
end
end Go.Proofs.YtoedmpgicdekmaaGreatDoor
