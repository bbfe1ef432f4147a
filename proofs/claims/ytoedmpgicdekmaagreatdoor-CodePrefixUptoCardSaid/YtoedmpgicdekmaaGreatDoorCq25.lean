/-
  Parts of the proof: CpE CpF CpG CpH.
-/
import Derived.Test.YtoedmpgicdekmaaGreatDoorCq00
import Derived.Deep.CutBlock
import Derived.Laws.CopyOwn
import Derived.Test.YtoedmpgicdekmaaGreatDoorCq24
import Derived.Test.YtoedmpgicdekmaaGreatDoorCq08
set_option maxRecDepth 100000
set_option maxHeartbeats 8000000
set_option linter.unusedVariables false
set_option linter.unusedSimpArgs false
set_option linter.unusedSectionVars false
namespace Go.Proofs.YtoedmpgicdekmaaGreatDoor
open Go.Proofs.Tryz
section
open Go.RowKit
section
variable {w w' W:World} {g:Nat} {t t1 t2 t3:TypeId} {cs c1 c2 c3:Array Value}
theorem kb (h:Hid (aP w g t cs)) (he:au w w'):Hid (aP w' g t cs):=aP.ext h he
theorem kx {w0:World} (h:Hid (au w0 w)) (he:au w w'):Hid (au w0 w'):=qd h he
theorem jm (h:w.alloc (.cells c1 t1)=W):au w W/\Hid (aP W w.heap.size t1 c1)/\Hid (W.heap.size=w.heap.size+1):=by
 subst h;exact⟨aa _ _,aw _ _ _,World.size_alloc _ _⟩
theorem E6 (h:(w.alloc (.cells c1 t1)).alloc (.cells c2 t2)=W):au w W/\Hid (aP W w.heap.size t1 c1)/\Hid (aP W (w.heap.size+1) t2 c2)/\Hid (W.heap.size=w.heap.size+1+1):=by
 obtain⟨e1,b1,s1⟩:=jm (w:=w) (c1:=c1) (t1:=t1) rfl;obtain⟨e2,b2,s2⟩:=jm h;unfold Hid at*;rw[s1]at b2 s2;exact⟨e1.trans e2,b1.ext e2,b2,s2⟩
theorem CU (h:((w.alloc (.cells c1 t1)).alloc (.cells c2 t2)).alloc (.cells c3 t3)=W):au w W/\Hid (aP W w.heap.size t1 c1)/\Hid (aP W (w.heap.size+1) t2 c2)/\Hid (aP W (w.heap.size+1+1) t3 c3)/\Hid (W.heap.size=w.heap.size+1+1+1):=by
 obtain⟨e1,b1,b2,s1⟩:=E6 (w:=w) (c1:=c1) (t1:=t1) (c2:=c2) (t2:=t2) rfl;obtain⟨e2,b3,s2⟩:=jm h;unfold Hid at*;rw[s1]at b3 s2;exact⟨e1.trans e2,b1.ext e2,b2.ext e2,b3,s2⟩
theorem oQ (h:w.setRow g c1=W) (hb:Hid (aP w g t cs)):Hid (aP W g t c1)/\Hid (W.heap.size=w.heap.size)/\(∀k t cs,k≠g->Hid (aP w k t cs)->Hid (aP W k t cs))/\ ∀w0,Hid (au w0 w)->w0.heap.size<=g->Hid (au w0 W):=by
 subst h;exact⟨setRow_heap _ _ cs c1 t _ hb,by simp[Hid],fun k t cs hk hb=>(setRow_other w g k _ hk).trans hb,fun w0 he hg=>below_setRow he hg _⟩
theorem rO {i:Nat} {v:Value} (h:w.setCell ⟨g,i,none⟩ v=W):Hid (W.heap.size=w.heap.size)/\(∀t cs,Hid (aP w g t cs)->Hid (aP W g t (cs.setIfInBounds i v)))/\(∀k t cs,k≠g->Hid (aP w k t cs)->Hid (aP W k t cs))/\ ∀w0,Hid (au w0 w)->w0.heap.size<=g->Hid (au w0 W):=by
 subst h;exact⟨by simp[World.setCell,Hid],fun t cs hb=>aP.set hb i v,fun k t cs hk hb=>aP.far (p:=⟨g,i,none⟩) hb hk v,fun w0 he hg=>au.set (p:=⟨g,i,none⟩) he hg v⟩
end
theorem lH (g:Rg) (p:Int):g.cs.setIfInBounds 16 (.int .i64 p)=Rg.cs ⟨g.r,p⟩:=rfl
def Rg.upd (g:Rg) (i:Nat) (v:Int):Rg:=⟨fun j=>if j=i then v else g.r j,g.pc⟩
theorem nX (g:Rg) (v:Int): ∀(i:Nat),i<16->g.cs.setIfInBounds i (.int .i32 v)=(g.upd i v).cs:=by
 intro i hi
 iterate 16 (rcases i with _|i;exact rfl)
 omega
theorem la {W W':World} {g:Nat} {t:TypeId} {z0 z1 z2 z3 z4 z5 z6 u0 u1 u2 u3 u4 u5 u6:Value} (h:((((((W.setCell ⟨g,0,none⟩ u0).setCell ⟨g,1,none⟩ u1).setCell ⟨g,2,none⟩ u2).setCell ⟨g,3,none⟩ u3).setCell ⟨g,4,none⟩ u4).setCell ⟨g,5,none⟩ u5).setCell ⟨g,6,none⟩ u6=W') (hz:Hid (aP W g t #[z0,z1,z2,z3,z4,z5,z6])):
  Hid (aP W' g t #[u0,u1,u2,u3,u4,u5,u6])/\(∀k t cs,k≠g->Hid (aP W k t cs)->Hid (aP W' k t cs))/\ ∀w0,Hid (au w0 W)->w0.heap.size<=g->Hid (au w0 W'):=by
 subst h;have h0:aP _ g t #[u0,z1,z2,z3,z4,z5,z6]:=hz.out.set 0 u0;have h1:aP _ g t #[u0,u1,z2,z3,z4,z5,z6]:=h0.set 1 u1;have h2:aP _ g t #[u0,u1,u2,z3,z4,z5,z6]:=h1.set 2 u2;have h3:aP _ g t #[u0,u1,u2,u3,z4,z5,z6]:=h2.set 3 u3;have h4:aP _ g t #[u0,u1,u2,u3,u4,z5,z6]:=h3.set 4 u4;have h5:aP _ g t #[u0,u1,u2,u3,u4,u5,z6]:=h4.set 5 u5;refine⟨h5.set 6 u6,fun k t cs hk hb=> ?_,fun w0 he hg=> ?_⟩
 ·iterate 7 (refine aP.far ?_ hk _)
  exact hb
 ·iterate 7 (refine au.set ?_ hg _)
  exact he
theorem wj (g:Rg) (i:Nat) (hi:i<16) (v:Int):(g.upd i v).cs[i]? =some (.int .i32 v):=by
 rw[ii _ i hi];simp[Rg.upd]
theorem AX (g:Rg) (i:Nat) (hi:i<16) (v:Int):(g.upd i v).cs.setIfInBounds i (.int .i32 v)=(g.upd i v).cs:=by
 rw[nX _ v i hi]
 congr 1
 simp only[Rg.upd]
 congr 1
 funext j;split<;>rfl
theorem cP {w:World} {g:Rg} {b:Nat} (h:Hid (aP w b 109 g.cs)):(loadVar 109 ⟨b,0,none⟩).run prog w= .ok (.agg g.cs) w:=
 run_loadVar_row w b _ _ g.cs _ _ h underlying109 rfl (by kernel_rfl)
theorem iF {w:World} {b:Nat} {u0 u1 u2 u3 u4 u5 u6:Value} (h:Hid (aP w b 181 #[u0,u1,u2,u3,u4,u5,u6])):(loadVar 181 ⟨b,0,none⟩).run prog w= .ok (.agg #[u0,u1,u2,u3,u4,u5,u6]) w:=
 run_loadVar_row w b _ _ _ _ _ h underlying181 rfl (by kernel_rfl)
theorem eT (g:Rg):g.cs.all (·.oneCell')=true:=by simp[Rg.cs,Value.oneCell']
theorem jv (g:Rg):g.cs[16]? =some (.int .i64 g.pc):=rfl
theorem qV (n:Int) (w:World):Calls prog 146 #[.int .i64 n] w fun e w'=>e= .returned (.agg #[.int .i64 2, .int .i64 n, .int .i64 0, .int .i64 0, .int .i64 0, .int .i64 0, .int .i64 0])/\au w w':=by
 go_enter func146,ntmps146;have hc:=(aw w 181 #[.int .i64 2, .int .i64 n, .int .i64 0, .int .i64 0, .int .i64 0, .int .i64 0, .int .i64 0]).cell;go_wp2_with fail;exact bodyPost_ret (v:= .agg #[.int .i64 2, .int .i64 n, .int .i64 0, .int .i64 0, .int .i64 0, .int .i64 0, .int .i64 0]) (by simp[results,results146,go_sem,hc]) rfl ⟨rfl,aa w _⟩
theorem BO (g:Rg) (b o c:Nat) (b0 b1 b2 b3:UInt8) (k ra rb rc:Nat) (ld:Int) (w:World) (hF:FT w) (h4:tn w b o b0 b1 b2 b3) (hc:4<=c) (hc2:c<=maxLen) (hd:eO b0 b1 b2 b3=some ⟨k,ra,rb,rc,0⟩) (hk:k=4\/k=5\/k=6\/k=7\/k=8\/k=9\/k=10\/k=11\/k=12\/k=13)
  (ha:ra<16) (hb:rb<16) (hcc:rc<16) (hpc:0<=g.pc/\g.pc<=1000000) (hrb: -2147483648<=g.r rb/\g.r rb<=2147483647) (h0:k=7\/k=8->g.r rc≠0):
  Calls prog 92 #[.agg g.cs, .slice (some ⟨b,o,none⟩) 4 c, .int .i64 ld] w fun e w'=>e= .returned (.tuple #[.agg (Rg.upd ⟨g.r,g.pc+4⟩ ra (kq k (g.r rb) (g.r rc))).cs, .int .i64 0, .agg #[.int .i64 0, .int .i64 0, .int .i64 0, .int .i64 0, .int .i64 0, .int .i64 0, .int .i64 0]])/\au w w':=by
 have HD:=G (fun W (h:au w W)=>show Calls prog 86 #[.slice (some ⟨b,o,none⟩) 4 c] W fun e w'=>e= .returned (.tuple #[.agg #[.int .i64 k, .int .i64 ra, .int .i64 rb, .int .i64 rc, .int .i64 0], .int .i64 0])/\au W w' from by
  have:=ep b o c b0 b1 b2 b3 W (hF.ext h) (h4.ext h) hc hc2;rw[hd]at this
  exact this)
 have HP:=G (fun W=>show Calls prog 145 #[.agg g.cs, .agg #[.int .i64 k, .int .i64 ra, .int .i64 rb, .int .i64 rc, .int .i64 0]] W fun e w'=>e= .returned (.tuple #[.int .i64 0, .int .i64 0])/\au W w' from by
  have:=fY g ⟨k,ra,rb,rc,0⟩ W (by simpa using hrb) (by simp only;omega) (by simp only;omega);unfold bL cQ.val at this;rw[if_neg (by simp only;omega),if_neg (by simp only;omega)]at this
  exact this)
 have HAr:=G (fun W=>xp k (g.r rb) (g.r rc) W hk h0);obtain⟨hp0,hp1⟩:=hpc;have hpw:IntKind.i64.wrap (g.pc+4)=g.pc+4:=by simp[IntKind.wrap,IntKind.signed,IntKind.bits];omega
 clear hF h4 hd hc hc2 hrb;go_enter func92,ntmps92
 go_upto_region 1 with fail
 generalize hW:World.alloc (World.alloc (World.alloc w _) _) _=W0;obtain⟨hX,r,q,z,s⟩:=CU hW;replace hX:=G hX;clear hW;replace hk:=G hk;replace h0:=G h0
 go_upto_region 2 with(go_at_call 86;refine(HD.out _ hX.out).mono ?_;rintro e w1 ⟨rfl,hE⟩;clear HD;replace hX:=kx hX hE;replace r:=kb r hE;replace q:=kb q hE;replace z:=kb z hE)
 generalize hW:World.alloc w1 _=W1;obtain⟨hE,x,s1⟩:=jm hW;replace hX:=kx hX hE;replace r:=kb r hE;replace q:=kb q hE;replace z:=kb z hE;clear hW hE;have cx:=x.out.cell;have cr:=r.out.cell
 go_upto_region 5 with(first|(refine bU rfl 109 _ rfl _ rfl _ (cP r) ?_)|(go_at_call 145;refine(HP.out _).mono ?_;rintro e w2 ⟨rfl,hE⟩;clear HP cx cr;replace hX:=kx hX hE;replace r:=kb r hE;replace q:=kb q hE;replace z:=kb z hE;replace x:=kb x hE;have cx:=x.out.cell;have cr:=r.out.cell;clear hE))
 have gc:=ii g rc hcc;have gb:=ii g rb hb;have g16:=jv g;have hk1:3<k/\k<14:=by have:=hk.out;omega
 obtain⟨kl,ku⟩:=hk1;have hcase:k=7\/k=8\/(¬k=7/\ ¬k=8):=by omega
 obtain⟨K,hK⟩: ∃K:Int,(k:Int)=K:=⟨_,rfl⟩
 rw[hK]at x cx HAr;have HK:=G hK;have n1: ¬K=1:=by omega
 have n2: ¬K=2:=by omega
 have n3: ¬K=3:=by omega
 have nn: ∀j:Int,14<=j->(K==j)=false:=fun j hj=>beq_eq_false_iff_ne.2 (by omega);have m1:=beq_eq_false_iff_ne.2 n1;have m2:=beq_eq_false_iff_ne.2 n2;have m3:=beq_eq_false_iff_ne.2 n3;have m14:=nn 14 (by decide);have m15:=nn 15 (by decide);have m16:=nn 16 (by decide);have m17:=nn 17 (by decide);have m18:=nn 18 (by decide);have m19:=nn 19 (by decide);have m20:=nn 20 (by decide);have m21:=nn 21 (by decide);have m22:=nn 22 (by decide)
 have HC:=G (show(K==7)=true/\(g.r rc==0)=false\/(K==7)=false/\(K==8)=true/\(g.r rc==0)=false\/(K==7)=false/\(K==8)=false by
  rcases hcase with h|h|⟨h1,h2⟩
  ·exact .inl ⟨beq_iff_eq.2 (by omega),beq_eq_false_iff_ne.2 (h0.out (.inl h))⟩
  ·exact .inr (.inl ⟨beq_eq_false_iff_ne.2 (by omega),beq_iff_eq.2 (by omega),beq_eq_false_iff_ne.2 (h0.out (.inr h))⟩)
  ·exact .inr (.inr ⟨beq_eq_false_iff_ne.2 (by omega),beq_eq_false_iff_ne.2 (by omega)⟩))
 have hz1:w.heap.size+1+1<w1.heap.size:=by have:=s.out;have:=fL hE;omega
 generalize hAR:kq k (g.r rb) (g.r rc)=AR at*;clear hK n1 n2 n3 nn hcase h0 hk kl ku
 go_upto_region 7 with fail
 rcases HC.out with⟨e1,e2⟩|⟨e1,e2,e3⟩|⟨e1,e2⟩
 all_goals
  clear HC
  go_upto_region 9 with fail
  try clear e3
  clear e1 e2
  go_upto_region 10 with(first|(refine bU rfl 109 _ rfl _ rfl _ (cP r) ?_)|(refine wpList_store_row rfl 109 _ _ rfl _ _ rfl rfl _ _ (aw _ _ _) (by kernel_rfl) rfl (eT _) ?_))
  generalize hW:World.setRow (World.alloc w2 _) _ _=W3;obtain⟨y,s3,hs,hx⟩:=oQ hW (aw w2 _ _);have hz2:w.heap.size+1+1<w2.heap.size:=z.out.lt;replace r:=hs _ _ _ (by omega) (kb r (aa w2 _));replace q:=hs _ _ _ (by omega) (kb q (aa w2 _));replace z:=hs _ _ _ (by omega) (kb z (aa w2 _));replace x:=hs _ _ _ (by have:=x.out.lt;omega) (kb x (aa w2 _));replace hX:=hx _ (kx hX (aa w2 _)) (by omega);clear hW hs hx cr cx;have cx:=x.out.cell;have cr:=r.out.cell;have fr:=r.out.frozen
  go_upto_region 12 with fail
  generalize hW:World.setCell W3 _ _=W4;obtain⟨s4,hg,hs,hx⟩:=rO hW;replace r:=hg _ _ r;replace q:=hs _ _ _ (by omega) q;replace z:=hs _ _ _ (by omega) z;replace x:=hs _ _ _ (by omega) x;replace y:=hs _ _ _ (by omega) y;replace hX:=hx _ hX (by omega);rw[lH]at r;clear hW hs hg hx cr cx fr;have cx:=x.out.cell;have cr:=r.out.cell;have fr:=r.out.frozen;have cy:=y.out.cell
  go_upto_region 14 with fail
  refine bY (UW w.heap.size 109 (Rg.cs ⟨g.r,g.pc+4⟩) (Rg.upd ⟨g.r,g.pc+4⟩ ra AR).cs) (UW.refl _ _ _ _) (UW.trans _ _ _ _) 15 16 [(13,fun v=>v= .int .i32 AR,fun _ _=>True)] [3,8] mixed (by kernel_rfl) (by kernel_rfl) (by kernel_rfl) (by rfl) ⟨fun _ _ _ _ _=>trivial,trivial⟩ ?_;clear cx cr fr cy;have hbi:(rb:Int)<16:=by omega
  have hci:(rc:Int)<16:=by omega
  repeat (first|(refine bM (by rfl) ?_;simp only[bH,bG,bF,bE,bD])|(refine sx ?_ (fun w1 hU=> ?_) ?_;rotate_left;(focus have f1:=(x.out.grown (bA hU.1) (fun e=>by injection e with e;omega)).cell;have f2:=(y.out.grown (bA hU.1) (fun e=>by injection e with e;omega)).cell;clear hU;go_simp<;>with_reducible rfl);simp only[bH,bG,bF,bE,bD]))
  refine so (fun w6 hU hp K hK=> ?_) ?_
  ·clear hp hU;go_simp;refine(HAr.out w6).mono ?_;rintro e w7 ⟨rfl,rfl⟩;exact hK _ _ (UW.refl _ _ _ _ _) rfl trivial
  rintro _ rfl;simp only[bH,bG,bF,bE,bD];repeat (first|(refine bM (by rfl) ?_;simp only[bH,bG,bF,bE,bD])|(refine sx ?_ (fun w1 hU=> ?_) ?_;rotate_left;(focus clear hU;go_simp<;>with_reducible rfl);simp only[bH,bG,bF,bE,bD]))
  intro w5 hw5 hp;clear hp;simp only[ac,aq];obtain⟨⟨zz,hzz⟩,hzf,hU,r6⟩:=hw5.store r.out ra (.int .i32 AR) (.int .i32 (g.r ra)) (nX _ _ _ ha) (AX _ _ ha _) (ii ⟨g.r,g.pc+4⟩ ra ha) (wj _ _ ha _);have HU:=G hU;refine aH (by rfl) (by simp) (fun K hK=> ?_);go_simp;refine hK _ _ HU.out ?_;clear hK hw5 hzz hzf hU;refine b_ ?_;generalize World.setCell w5 _ _=W6 at*;replace r:=G r6;have hG:=bA HU.out.1;replace q:=G (q.out.grown hG (fun e=>by injection e with e;omega));replace z:=G (z.out.grown hG (fun e=>by injection e with e;omega));replace hX:=G (hX.out.grown hG (fun k e=>by injection e with e;omega));clear r6 hG HU x y;go_wp2_with (first|(refine bU rfl 109 _ rfl _ rfl _ (cP r) ?_)|(refine wpList_store_row rfl 109 _ _ rfl _ _ rfl rfl _ _ q.out (by kernel_rfl) rfl (eT _) ?_;generalize hW:World.setRow W6 _ _=W7;obtain⟨q7,_,hs,hx⟩:=oQ hW q;replace hX:=hx _ hX (by omega);replace z:=hs _ _ _ (by omega) z;clear hW hs hx q r;have cz:=z.out.cell;have fz:=z.out.frozen));generalize hW:World.setCell _ _ _=W8;obtain⟨z8,hs,hx⟩:=la hW z;have q8:=hs _ _ _ (by omega) q7;have hX8:=hx _ hX (by omega);have hl:=cP q8;have ht:=iF z8;clear hs hx hW;refine bodyPost_ret (v:= .tuple #[.agg (Rg.upd ⟨g.r,g.pc+4⟩ ra AR).cs, .int .i64 0, .agg #[.int .i64 0, .int .i64 0, .int .i64 0, .int .i64 0, .int .i64 0, .int .i64 0, .int .i64 0]]) ?_ rfl ⟨by rw[hAR],hX8.out⟩;simp[results,results92,asAddr,hl,ht]
end
section
open Go.RowKit
theorem lS {P:Program} {w:World} {o:Oper} {ev:Operand->Value} (ty:TypeId) (x:Operand) (ho:o.op= .load ty x) (g:Nat) (hx:ev x= .pointer (some ⟨g,0,none⟩)) (v:Value) (hl:(loadVar ty ⟨g,0,none⟩).run P w= .ok v w):(execOp ev o).run P w= .ok (.value v) w:=by
 simp[execOp,ho,Instr.loadAt,Instr.sureAddr,hx,hl,Result.andThen]
theorem BN (g:Rg) (b o c:Nat) (b0 b1 b2 b3:UInt8) (k ra rb rc:Nat) (ld:Int) (w:World) (hF:FT w) (h4:tn w b o b0 b1 b2 b3) (hc:4<=c) (hc2:c<=maxLen) (hd:eO b0 b1 b2 b3=some ⟨k,ra,rb,rc,0⟩) (hk:k=7\/k=8)
  (ha:ra<16) (hb:rb<16) (hcc:rc<16) (hrb: -2147483648<=g.r rb/\g.r rb<=2147483647) (h0:g.r rc=0):
  Calls prog 92 #[.agg g.cs, .slice (some ⟨b,o,none⟩) 4 c, .int .i64 ld] w fun e w'=>e= .returned (.tuple #[.agg g.cs, .int .i64 0, .agg #[.int .i64 2, .int .i64 2, .int .i64 0, .int .i64 0, .int .i64 0, .int .i64 0, .int .i64 0]])/\au w w':=by
 have HD:=G (fun W (h:au w W)=>show Calls prog 86 #[.slice (some ⟨b,o,none⟩) 4 c] W fun e w'=>e= .returned (.tuple #[.agg #[.int .i64 k, .int .i64 ra, .int .i64 rb, .int .i64 rc, .int .i64 0], .int .i64 0])/\au W w' from by
  have:=ep b o c b0 b1 b2 b3 W (hF.ext h) (h4.ext h) hc hc2;rw[hd]at this
  exact this)
 have HP:=G (fun W=>show Calls prog 145 #[.agg g.cs, .agg #[.int .i64 k, .int .i64 ra, .int .i64 rb, .int .i64 rc, .int .i64 0]] W fun e w'=>e= .returned (.tuple #[.int .i64 0, .int .i64 0])/\au W w' from by
  have:=fY g ⟨k,ra,rb,rc,0⟩ W (by simpa using hrb) (by simp only;omega) (by simp only;omega);unfold bL cQ.val at this;rw[if_neg (by simp only;omega),if_neg (by simp only;omega)]at this
  exact this)
 clear hF h4 hd hc hc2 hrb;go_enter func92,ntmps92
 go_upto_region 1 with fail
 generalize hW:World.alloc (World.alloc (World.alloc w _) _) _=W0;obtain⟨hX,r,q,z,s⟩:=CU hW;replace hX:=G hX;clear hW;replace hk:=G hk;replace h0:=G h0
 go_upto_region 2 with(go_at_call 86;refine(HD.out _ hX.out).mono ?_;rintro e w1 ⟨rfl,hE⟩;clear HD;replace hX:=kx hX hE;replace r:=kb r hE;replace q:=kb q hE;replace z:=kb z hE)
 generalize hW:World.alloc w1 _=W1;obtain⟨hE,x,s1⟩:=jm hW;replace hX:=kx hX hE;replace r:=kb r hE;replace q:=kb q hE;replace z:=kb z hE;clear hW hE;have cx:=x.out.cell;have cr:=r.out.cell
 go_upto_region 5 with(first|(refine bU rfl 109 _ rfl _ rfl _ (cP r) ?_)|(go_at_call 145;refine(HP.out _).mono ?_;rintro e w2 ⟨rfl,hE⟩;clear HP cx cr;replace hX:=kx hX hE;replace r:=kb r hE;replace q:=kb q hE;replace z:=kb z hE;replace x:=kb x hE;have cx:=x.out.cell;have cr:=r.out.cell;clear hE))
 have gc:=ii g rc hcc;rw[h0.out]at gc;have HEx:=G (fun W=>qV 2 W);rcases hk.out with rfl|rfl;all_goals
  clear hk h0
  go_upto_region 8 with fail
  refine ay 2 2 [(1,fun v=>v= .agg #[.int .i64 2, .int .i64 2, .int .i64 0, .int .i64 0, .int .i64 0, .int .i64 0, .int .i64 0],fun _ _=>True)] mixed (by kernel_rfl) ⟨fun _ _ _ _ _=>trivial,trivial⟩ ?_;clear cx cr gc;refine sx ?_ (fun w1 hU=> ?_) ?_;rotate_left;(focus rw[lS 109 (.tmp 3) rfl w.heap.size rfl _ (cP (kb r hU.un))]);simp only[bH,bG,bF,bE,bD];refine so (fun w6 hU hp K hK=> ?_) ?_
  ·clear hp hU;go_simp;refine(HEx.out w6).mono ?_;rintro e w7 ⟨rfl,hE⟩;exact hK _ _ hE rfl trivial
  rintro _ rfl;simp only[bH,bG,bF,bE,bD];intro w5 hw5 hp;replace hX:=kx hX hw5.un;replace q:=kb q hw5.un;replace z:=kb z hw5.un;have hz2:w.heap.size+1+1<w5.heap.size:=z.out.lt;clear hp hw5 r x;simp only[ac,aq];go_wp2_with (refine wpList_store_row rfl 109 _ _ rfl _ _ rfl rfl _ _ q.out (by kernel_rfl) rfl (eT _) ?_;generalize hW:World.setRow w5 _ _=W7;obtain⟨q7,_,hs,hx⟩:=oQ hW q;replace hX:=hx _ hX (by omega);replace z:=hs _ _ _ (by omega) z;clear hW hs hx q;have cz:=z.out.cell;have fz:=z.out.frozen);generalize hW:World.setCell _ _ _=W8;obtain⟨z8,hs,hx⟩:=la hW z;have q8:=hs _ _ _ (by omega) q7;have hX8:=hx _ hX (by omega);have hl:=cP q8;have ht:=iF z8;clear hs hx hW;refine bodyPost_ret (v:= .tuple #[.agg g.cs, .int .i64 0, .agg #[.int .i64 2, .int .i64 2, .int .i64 0, .int .i64 0, .int .i64 0, .int .i64 0, .int .i64 0]]) ?_ rfl ⟨rfl,hX8.out⟩;simp[results,results92,asAddr,hl,ht]
end
section
open Go.RowKit
theorem Ev {w W:World} {g i:Nat} {v:Value} (h:(w.setCell ⟨g,i,none⟩ v).drew=W):Hid (W.heap.size=w.heap.size)/\(∀t cs,Hid (aP w g t cs)->Hid (aP W g t (cs.setIfInBounds i v)))/\(∀k t cs,k≠g->Hid (aP w k t cs)->Hid (aP W k t cs))/\ ∀w0,Hid (au w0 w)->w0.heap.size<=g->Hid (au w0 W):=by
 subst h;obtain⟨h1,h2,h3,h4⟩:=rO (w:=w) (g:=g) (i:=i) (v:=v) rfl;exact⟨h1,fun t cs hb=>kt (h2 t cs hb),fun k t cs hk hb=>kt (h3 k t cs hk hb),fun w0 he hg=>qd (h4 w0 he hg) (d9 (aG _))⟩
def Fl (g:Rg) (k ra rb:Nat) (xc xv ld:Int):Int:=if k=1 then xv else if k=2 then wrap32 (g.r ra+xv*65536)else if k=3 then wrap32 (g.r rb+wrap32 xc)else if k=14 then wrap32 ld else ld%256
theorem BI (g:Rg) (b o c:Nat) (b0 b1 b2 b3:UInt8) (k ra rb:Nat) (xc xv:Int) (ld:Int) (w:World) (hF:FT w) (h4:tn w b o b0 b1 b2 b3) (hc:4<=c) (hc2:c<=maxLen) (hd:eO b0 b1 b2 b3=some ⟨k,ra,rb,xc,xv⟩) (hk:k=1\/k=2\/k=3\/k=14\/k=16)
  (ha:ra<16) (hb:rb<16) (hpc:0<=g.pc/\g.pc<=1000000) (hrb: -2147483648<=g.r rb/\g.r rb<=2147483647) (hxc: -200<=xc/\xc<=300) (hxv: -32768<=xv/\xv<=32767) (hal:k=14->(g.r rb+xc).tmod 4=0):
  Calls prog 92 #[.agg g.cs, .slice (some ⟨b,o,none⟩) 4 c, .int .i64 ld] w fun e w'=>e= .returned (.tuple #[.agg (Rg.upd ⟨g.r,g.pc+4⟩ ra (Fl g k ra rb xc xv ld)).cs, .int .i64 0, .agg #[.int .i64 0, .int .i64 0, .int .i64 0, .int .i64 0, .int .i64 0, .int .i64 0, .int .i64 0]])/\au w w':=by
 have HD:=G (fun W (h:au w W)=>show Calls prog 86 #[.slice (some ⟨b,o,none⟩) 4 c] W fun e w'=>e= .returned (.tuple #[.agg #[.int .i64 k, .int .i64 ra, .int .i64 rb, .int .i64 xc, .int .i64 xv], .int .i64 0])/\au W w' from by
  have:=ep b o c b0 b1 b2 b3 W (hF.ext h) (h4.ext h) hc hc2;rw[hd]at this
  exact this)
 have HP:=G (fun W=>show Calls prog 145 #[.agg g.cs, .agg #[.int .i64 k, .int .i64 ra, .int .i64 rb, .int .i64 xc, .int .i64 xv]] W fun e w'=>e= .returned (.tuple #[.int .i64 (bL g ⟨k,ra,rb,xc,xv⟩).1, .int .i64 (bL g ⟨k,ra,rb,xc,xv⟩).2])/\au W w' from
  fY g ⟨k,ra,rb,xc,xv⟩ W (by simpa using hrb) (by simp only;omega) hxc)
 obtain⟨hp0,hp1⟩:=hpc;obtain⟨hv0,hv1⟩:=hxv;have hpw:IntKind.i64.wrap (g.pc+4)=g.pc+4:=by simp[IntKind.wrap,IntKind.signed,IntKind.bits];omega
 have hpv:IntKind.i64.wrap (4*xv)=4*xv:=by simp[IntKind.wrap,IntKind.signed,IntKind.bits];omega
 have hpt:IntKind.i64.wrap (g.pc+4+4*xv)=g.pc+4+4*xv:=by simp[IntKind.wrap,IntKind.signed,IntKind.bits];omega
 clear hF h4 hd hc hc2 hrb hxc;unfold bL at HP;simp only[bP]at HP;have hai:(ra:Int)<16:=by omega
 have hbi:(rb:Int)<16:=by omega
 rcases hk with rfl|rfl|rfl|rfl|rfl;all_goals
  simp at HP;go_enter func92,ntmps92
  go_upto_region 1 with fail
  generalize hW:World.alloc (World.alloc (World.alloc w _) _) _=W0;obtain⟨hX,r,q,z,s⟩:=CU hW;replace hX:=G hX;clear hW
  go_upto_region 2 with(go_at_call 86;refine(HD.out _ hX.out).mono ?_;rintro e w1 ⟨rfl,hE⟩;have hz1:w.heap.size+1+1<w1.heap.size:=(by have:=s.out;have:=fL hE;omega);clear HD;replace hX:=kx hX hE;replace r:=kb r hE;replace q:=kb q hE;replace z:=kb z hE)
  generalize hW:World.alloc w1 _=W1;obtain⟨hE,x,s1⟩:=jm hW;replace hX:=kx hX hE;replace r:=kb r hE;replace q:=kb q hE;replace z:=kb z hE;clear hW hE;have cx:=x.out.cell;have cr:=r.out.cell
  go_upto_region 5 with(first|(refine bU rfl 109 _ rfl _ rfl _ (cP r) ?_)|(go_at_call 145;refine(HP.out _).mono ?_;rintro e w2 ⟨rfl,hE⟩;clear HP cx cr;replace hX:=kx hX hE;replace r:=kb r hE;replace q:=kb q hE;replace z:=kb z hE;replace x:=kb x hE;have cx:=x.out.cell;have cr:=r.out.cell;clear hE))
  have g16:=jv g
  go_upto_region 9 with fail
  go_upto_region 10 with(first|(refine bU rfl 109 _ rfl _ rfl _ (cP r) ?_)|(refine wpList_store_row rfl 109 _ _ rfl _ _ rfl rfl _ _ (aw _ _ _) (by kernel_rfl) rfl (eT _) ?_))
  generalize hW:World.setRow (World.alloc w2 _) _ _=W3;obtain⟨y,s3,hs,hx⟩:=oQ hW (aw w2 _ _);have hz2:w.heap.size+1+1<w2.heap.size:=z.out.lt;replace r:=hs _ _ _ (by omega) (kb r (aa w2 _));replace q:=hs _ _ _ (by omega) (kb q (aa w2 _));replace z:=hs _ _ _ (by omega) (kb z (aa w2 _));replace x:=hs _ _ _ (by have:=x.out.lt;omega) (kb x (aa w2 _));replace hX:=hx _ (kx hX (aa w2 _)) (by omega);clear hW hs hx cr cx;have cx:=x.out.cell;have cr:=r.out.cell;have fr:=r.out.frozen
  go_upto_region 12 with fail
  generalize hW:World.setCell W3 _ _=W4;obtain⟨s4,hg,hs,hx⟩:=rO hW;replace r:=hg _ _ r;replace q:=hs _ _ _ (by omega) q;replace z:=hs _ _ _ (by omega) z;replace x:=hs _ _ _ (by omega) x;replace y:=hs _ _ _ (by omega) y;replace hX:=hx _ hX (by omega);rw[lH]at r;clear hW hs hg hx cr cx fr;have cx:=x.out.cell;have cr:=r.out.cell;have fr:=r.out.frozen;have cy:=y.out.cell;have gr:=ii ⟨g.r,g.pc+4⟩ ra ha;have gb:=ii g rb hb;simp only at gr
 focus (go_upto_region 42 with fail;generalize hW:World.setCell W4 _ _=W5;replace hW:=rO hW)
 rotate_left
 focus (go_upto_region 18 with fail;go_region;go_upto_region 42 with fail;generalize hW:World.drew (World.setCell W4 _ _)=W5;replace hW:=Ev hW)
 rotate_left
 focus (go_upto_region 20 with fail;go_region;go_upto_region 42 with fail;generalize hW:World.drew (World.setCell W4 _ _)=W5;replace hW:=Ev hW)
 rotate_left
 focus (go_upto_region 42 with fail;generalize hW:World.setCell W4 _ _=W5;replace hW:=rO hW)
 rotate_left
 focus (go_upto_region 42 with fail;generalize hW:World.setCell W4 _ _=W5;replace hW:=rO hW)
 rotate_left;all_goals
  obtain⟨s5,hg,hs,hx⟩:=hW;replace r:=hg _ _ r;replace q:=hs _ _ _ (by omega) q;replace z:=hs _ _ _ (by omega) z;replace hX:=hx _ hX (by omega);rw[nX _ _ _ ha]at r;clear hg hs hx cx cr fr cy x y gr gb g16;go_wp2_with (first|(refine bU rfl 109 _ rfl _ rfl _ (cP r) ?_)|(refine wpList_store_row rfl 109 _ _ rfl _ _ rfl rfl _ _ q.out (by kernel_rfl) rfl (eT _) ?_;generalize hW:World.setRow W5 _ _=W7;obtain⟨q7,_,hs,hx⟩:=oQ hW q;replace hX:=hx _ hX (by omega);replace z:=hs _ _ _ (by omega) z;clear hW hs hx q r;have cz:=z.out.cell;have fz:=z.out.frozen));generalize hW:World.setCell _ _ _=W8;obtain⟨z8,hs,hx⟩:=la hW z;have q8:=hs _ _ _ (by omega) q7;have hX8:=hx _ hX (by omega);have hl:=cP q8;have ht:=iF z8;clear hs hx hW;refine bodyPost_ret (v:= .tuple #[.agg (Rg.upd ⟨g.r,g.pc+4⟩ ra _).cs, .int .i64 0, .agg #[.int .i64 0, .int .i64 0, .int .i64 0, .int .i64 0, .int .i64 0, .int .i64 0, .int .i64 0]]) ?_ rfl ⟨rfl,hX8.out⟩;simp[results,results92,asAddr,hl,ht,Fl]
end
section
open Go.RowKit
def EP (g:Rg) (ra:Nat) (xv:Int):Nat->Rg
 |18=>⟨g.r,g.pc+4+4*xv⟩
 |19=>⟨g.r,cond (g.r ra==0) (g.pc+4+4*xv) (g.pc+4)⟩
 |20=>⟨(Rg.upd g ra (g.pc+4)).r,g.pc+4+4*xv⟩
 | _=>⟨g.r,wrap64 (g.r ra)⟩
theorem BM (g:Rg) (b o c:Nat) (b0 b1 b2 b3:UInt8) (k ra rb:Nat) (xc xv:Int) (ld:Int) (w:World) (hF:FT w) (h4:tn w b o b0 b1 b2 b3) (hc:4<=c) (hc2:c<=maxLen) (hd:eO b0 b1 b2 b3=some ⟨k,ra,rb,xc,xv⟩) (hk:k=18\/k=19\/k=20\/k=21)
  (ha:ra<16) (hb:rb<16) (hpc:0<=g.pc/\g.pc<=1000000) (hrb: -2147483648<=g.r rb/\g.r rb<=2147483647) (hxc: -200<=xc/\xc<=300) (hxv: -32768<=xv/\xv<=32767):
  Calls prog 92 #[.agg g.cs, .slice (some ⟨b,o,none⟩) 4 c, .int .i64 ld] w fun e w'=>e= .returned (.tuple #[.agg (EP g ra xv k).cs, .int .i64 0, .agg #[.int .i64 0, .int .i64 0, .int .i64 0, .int .i64 0, .int .i64 0, .int .i64 0, .int .i64 0]])/\au w w':=by
 have HD:=G (fun W (h:au w W)=>show Calls prog 86 #[.slice (some ⟨b,o,none⟩) 4 c] W fun e w'=>e= .returned (.tuple #[.agg #[.int .i64 k, .int .i64 ra, .int .i64 rb, .int .i64 xc, .int .i64 xv], .int .i64 0])/\au W w' from by
  have:=ep b o c b0 b1 b2 b3 W (hF.ext h) (h4.ext h) hc hc2;rw[hd]at this
  exact this)
 have HP:=G (fun W=>show Calls prog 145 #[.agg g.cs, .agg #[.int .i64 k, .int .i64 ra, .int .i64 rb, .int .i64 xc, .int .i64 xv]] W fun e w'=>e= .returned (.tuple #[.int .i64 (bL g ⟨k,ra,rb,xc,xv⟩).1, .int .i64 (bL g ⟨k,ra,rb,xc,xv⟩).2])/\au W w' from
  fY g ⟨k,ra,rb,xc,xv⟩ W (by simpa using hrb) (by simp only;omega) hxc)
 obtain⟨hp0,hp1⟩:=hpc;obtain⟨hv0,hv1⟩:=hxv;have hpw:IntKind.i64.wrap (g.pc+4)=g.pc+4:=by simp[IntKind.wrap,IntKind.signed,IntKind.bits];omega
 have hpv:IntKind.i64.wrap (4*xv)=4*xv:=by simp[IntKind.wrap,IntKind.signed,IntKind.bits];omega
 have hpt:IntKind.i64.wrap (g.pc+4+4*xv)=g.pc+4+4*xv:=by simp[IntKind.wrap,IntKind.signed,IntKind.bits];omega
 clear hF h4 hd hc hc2 hrb hxc;unfold bL at HP;simp only[bP]at HP;have hai:(ra:Int)<16:=by omega
 have hbi:(rb:Int)<16:=by omega
 obtain⟨z0,hz0⟩: ∃t:Bool,(g.r ra==0)=t:=⟨_,rfl⟩
 rcases hk with rfl|rfl|rfl|rfl;all_goals
  simp at HP;go_enter func92,ntmps92
  go_upto_region 1 with fail
  generalize hW:World.alloc (World.alloc (World.alloc w _) _) _=W0;obtain⟨hX,r,q,z,s⟩:=CU hW;replace hX:=G hX;clear hW
  go_upto_region 2 with(go_at_call 86;refine(HD.out _ hX.out).mono ?_;rintro e w1 ⟨rfl,hE⟩;have hz1:w.heap.size+1+1<w1.heap.size:=(by have:=s.out;have:=fL hE;omega);clear HD;replace hX:=kx hX hE;replace r:=kb r hE;replace q:=kb q hE;replace z:=kb z hE)
  generalize hW:World.alloc w1 _=W1;obtain⟨hE,x,s1⟩:=jm hW;replace hX:=kx hX hE;replace r:=kb r hE;replace q:=kb q hE;replace z:=kb z hE;clear hW hE;have cx:=x.out.cell;have cr:=r.out.cell
  go_upto_region 5 with(first|(refine bU rfl 109 _ rfl _ rfl _ (cP r) ?_)|(go_at_call 145;refine(HP.out _).mono ?_;rintro e w2 ⟨rfl,hE⟩;clear HP cx cr;replace hX:=kx hX hE;replace r:=kb r hE;replace q:=kb q hE;replace z:=kb z hE;replace x:=kb x hE;have cx:=x.out.cell;have cr:=r.out.cell;clear hE))
  have g16:=jv g
  go_upto_region 9 with fail
  go_upto_region 10 with(first|(refine bU rfl 109 _ rfl _ rfl _ (cP r) ?_)|(refine wpList_store_row rfl 109 _ _ rfl _ _ rfl rfl _ _ (aw _ _ _) (by kernel_rfl) rfl (eT _) ?_))
  generalize hW:World.setRow (World.alloc w2 _) _ _=W3;obtain⟨y,s3,hs,hx⟩:=oQ hW (aw w2 _ _);have hz2:w.heap.size+1+1<w2.heap.size:=z.out.lt;replace r:=hs _ _ _ (by omega) (kb r (aa w2 _));replace q:=hs _ _ _ (by omega) (kb q (aa w2 _));replace z:=hs _ _ _ (by omega) (kb z (aa w2 _));replace x:=hs _ _ _ (by have:=x.out.lt;omega) (kb x (aa w2 _));replace hX:=hx _ (kx hX (aa w2 _)) (by omega);clear hW hs hx cr cx;have cx:=x.out.cell;have cr:=r.out.cell;have fr:=r.out.frozen
  go_upto_region 12 with fail
  generalize hW:World.setCell W3 _ _=W4;obtain⟨s4,hg,hs,hx⟩:=rO hW;replace r:=hg _ _ r;replace q:=hs _ _ _ (by omega) q;replace z:=hs _ _ _ (by omega) z;replace x:=hs _ _ _ (by omega) x;replace y:=hs _ _ _ (by omega) y;replace hX:=hx _ hX (by omega);rw[lH]at r;clear hW hs hg hx cr cx fr;have cx:=x.out.cell;have cr:=r.out.cell;have fr:=r.out.frozen;have cy:=y.out.cell;have gr:=ii ⟨g.r,g.pc+4⟩ ra ha;have gb:=ii g rb hb;simp only at gr;have gp:=jv ⟨g.r,g.pc+4⟩;simp only at gp
 focus (go_upto_region 42 with fail;generalize hW:World.setCell W4 _ _=W5;obtain⟨s5,hg,hs,hx⟩:=rO hW;replace r:=hg _ _ r;replace q:=hs _ _ _ (by omega) q;replace z:=hs _ _ _ (by omega) z;replace hX:=hx _ hX (by omega);rw[lH]at r)
 rotate_left
 focus (cases z0;(focus (go_upto_region 42 with fail;generalize W4=W5 at*));rotate_left;(go_upto_region 42 with fail;generalize hW:World.setCell W4 _ _=W5;obtain⟨s5,hg,hs,hx⟩:=rO hW;replace r:=hg _ _ r;replace q:=hs _ _ _ (by omega) q;replace z:=hs _ _ _ (by omega) z;replace hX:=hx _ hX (by omega);rw[lH]at r))
 rotate_left 2
 focus (go_upto_region 42 with fail;generalize hW:World.setCell W4 _ _=W6;obtain⟨s5,hg,hs,hx⟩:=rO hW;replace r:=hg _ _ r;replace q:=hs _ _ _ (by omega) q;replace z:=hs _ _ _ (by omega) z;replace hX:=hx _ hX (by omega);rw[nX _ _ _ ha]at r;generalize hW:World.setCell W6 _ _=W5;obtain⟨s5,hg,hs,hx⟩:=rO hW;replace r:=hg _ _ r;replace q:=hs _ _ _ (by omega) q;replace z:=hs _ _ _ (by omega) z;replace hX:=hx _ hX (by omega);rw[lH]at r)
 rotate_left
 focus (go_upto_region 42 with fail;generalize hW:World.setCell W4 _ _=W5;obtain⟨s5,hg,hs,hx⟩:=rO hW;replace r:=hg _ _ r;replace q:=hs _ _ _ (by omega) q;replace z:=hs _ _ _ (by omega) z;replace hX:=hx _ hX (by omega);rw[lH]at r)
 all_goals
  clear cx cr fr cy x y gr gb g16 gp;try clear hg hs hx
  go_wp2_with (first|(refine bU rfl 109 _ rfl _ rfl _ (cP r) ?_)|(refine wpList_store_row rfl 109 _ _ rfl _ _ rfl rfl _ _ q.out (by kernel_rfl) rfl (eT _) ?_;generalize hW:World.setRow W5 _ _=W7;obtain⟨q7,_,hs,hx⟩:=oQ hW q;replace hX:=hx _ hX (by omega);replace z:=hs _ _ _ (by omega) z;clear hW hs hx q r;have cz:=z.out.cell;have fz:=z.out.frozen));generalize hW:World.setCell _ _ _=W8;obtain⟨z8,hs,hx⟩:=la hW z;have q8:=hs _ _ _ (by omega) q7;have hX8:=hx _ hX (by omega);have hl:=cP q8;have ht:=iF z8;clear hs hx hW;refine bodyPost_ret (v:= .tuple #[.agg (Rg.cs _), .int .i64 0, .agg #[.int .i64 0, .int .i64 0, .int .i64 0, .int .i64 0, .int .i64 0, .int .i64 0, .int .i64 0]]) ?_ rfl ⟨rfl,hX8.out⟩;simp[results,results92,asAddr,hl,ht];first|rfl|(unfold EP;simp only[hz0,cond];done)
end
end Go.Proofs.YtoedmpgicdekmaaGreatDoor
