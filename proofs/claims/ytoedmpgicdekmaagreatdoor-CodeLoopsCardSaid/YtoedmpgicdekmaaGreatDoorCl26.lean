/- Parts of the proof. -/
import Derived.Test.YtoedmpgicdekmaaGreatDoorCl00
import Derived.Deep.CutBlock
import Derived.Laws.CopyOwn
import Derived.Test.YtoedmpgicdekmaaGreatDoorCl25
import Derived.Test.YtoedmpgicdekmaaGreatDoorCl09
set_option maxRecDepth 100000
set_option maxHeartbeats 8000000
set_option linter.unusedVariables false
set_option linter.unusedSimpArgs false
set_option linter.unusedSectionVars false
namespace Go.Proofs.YtoedmpgicdekmaaGreatDoor
open Go.Proofs.Tryz
section
open Go.RowKit
section
variable {w w' W:World} {g:Nat} {t t1 t2 t3:TypeId} {cs c1 c2 c3:Array Value}
theorem kb (d:Hid (aM w g t cs)) (a:au w w'):Hid (aM w' g t cs):=aM.ext d a
theorem kx {w0:World} (d:Hid (au w0 w)) (a:au w w'):Hid (au w0 w'):=r7 d a
theorem kZ (a:w.alloc (.cells c1 t1)=W):au w W/\Hid (aM W w.heap.size t1 c1)/\Hid (W.heap.size=w.heap.size+1):=by
 subst a;exact⟨aa _ _,aq _ _ _,World.size_alloc _ _⟩
theorem It (o:(w.alloc (.cells c1 t1)).alloc (.cells c2 t2)=W):au w W/\Hid (aM W w.heap.size t1 c1)/\Hid (aM W (w.heap.size+1) t2 c2)/\Hid (W.heap.size=w.heap.size+1+1):=by
 obtain⟨u,b1,h⟩:=kZ (w:=w) (c1:=c1) (t1:=t1) rfl;obtain⟨d,b2,a⟩:=kZ o;unfold Hid at*;rw[h]at b2 a;exact⟨u.trans d,b1.ext d,b2,a⟩
theorem Fq (o:((w.alloc (.cells c1 t1)).alloc (.cells c2 t2)).alloc (.cells c3 t3)=W):au w W/\Hid (aM W w.heap.size t1 c1)/\Hid (aM W (w.heap.size+1) t2 c2)/\Hid (aM W (w.heap.size+1+1) t3 c3)/\Hid (W.heap.size=w.heap.size+1+1+1):=by
 obtain⟨u,b1,b2,h⟩:=It (w:=w) (c1:=c1) (t1:=t1) (c2:=c2) (t2:=t2) rfl;obtain⟨a,b3,d⟩:=kZ o;unfold Hid at*;rw[h]at b3 d;exact⟨u.trans a,b1.ext a,b2.ext a,b3,d⟩
theorem qJ (u:w.setRow g c1=W) (a:Hid (aM w g t cs)):Hid (aM W g t c1)/\Hid (W.heap.size=w.heap.size)/\(∀k t cs,k≠g->Hid (aM w k t cs)->Hid (aM W k t cs))/\ ∀w0,Hid (au w0 w)->w0.heap.size<=g->Hid (au w0 W):=by
 subst u;exact⟨setRow_heap _ _ cs c1 t _ a,by simp[Hid],λk t cs d a=>(setRow_other w g k _ d).trans a,λw0 o h=>below_setRow o h _⟩
theorem t6 {i:Nat} {v:Value} (u:w.setCell ⟨g,i,none⟩ v=W):Hid (W.heap.size=w.heap.size)/\(∀t cs,Hid (aM w g t cs)->Hid (aM W g t (cs.setIfInBounds i v)))/\(∀k t cs,k≠g->Hid (aM w k t cs)->Hid (aM W k t cs))/\ ∀w0,Hid (au w0 w)->w0.heap.size<=g->Hid (au w0 W):=by
 subst u;exact⟨by simp[World.setCell,Hid],λt cs a=>aM.set a i v,λk t cs d a=>aM.far (p:=⟨g,i,none⟩) a d v,λw0 o h=>au.set (p:=⟨g,i,none⟩) o h v⟩
end
theorem nq (g:Rg) (p:Int):g.cs.setIfInBounds 16 (.int .i64 p)=Rg.cs ⟨g.r,p⟩:=rfl
def Rg.upd (g:Rg) (i:Nat) (v:Int):Rg:=⟨λj=>if j=i then v else g.r j,g.pc⟩
theorem p' (g:Rg) (v:Int): ∀(i:Nat),i<16->g.cs.setIfInBounds i (.int .i32 v)=(g.upd i v).cs:=by
 intro i a
 iterate 16 (rcases i with _|i;exact rfl)
 omega
theorem mG {W u:World} {g:Nat} {t:TypeId} {A z y o h d a u0 u1 u2 u3 u4 u5 u6:Value} (aa:((((((W.setCell ⟨g,0,none⟩ u0).setCell ⟨g,1,none⟩ u1).setCell ⟨g,2,none⟩ u2).setCell ⟨g,3,none⟩ u3).setCell ⟨g,4,none⟩ u4).setCell ⟨g,5,none⟩ u5).setCell ⟨g,6,none⟩ u6=u) (F:Hid (aM W g t #[A,z,y,o,h,d,a])):
  Hid (aM u g t #[u0,u1,u2,u3,u4,u5,u6])/\(∀k t cs,k≠g->Hid (aM W k t cs)->Hid (aM u k t cs))/\ ∀w0,Hid (au w0 W)->w0.heap.size<=g->Hid (au w0 u):=by
 subst aa;have Z:aM _ g t #[u0,z,y,o,h,d,a]:=F.out.set 0 u0;have X:aM _ g t #[u0,u1,y,o,h,d,a]:=Z.set 1 u1;have V:aM _ g t #[u0,u1,u2,o,h,d,a]:=X.set 2 u2;have R:aM _ g t #[u0,u1,u2,u3,h,d,a]:=V.set 3 u3;have M:aM _ g t #[u0,u1,u2,u3,u4,d,a]:=R.set 4 u4;have K:aM _ g t #[u0,u1,u2,u3,u4,u5,a]:=M.set 5 u5;refine⟨K.set 6 u6,λk t cs G J=> ?_,λw0 I H=> ?_⟩
 ·iterate 7 (refine aM.far ?_ G _)
  exact J
 ·iterate 7 (refine au.set ?_ H _)
  exact I
theorem yu (g:Rg) (i:Nat) (a:i<16) (v:Int):(g.upd i v).cs[i]? =some (.int .i32 v):=by
 rw[js _ i a];simp[Rg.upd]
theorem Dg (g:Rg) (i:Nat) (a:i<16) (v:Int):(g.upd i v).cs.setIfInBounds i (.int .i32 v)=(g.upd i v).cs:=by
 rw[p' _ v i a]
 congr 1
 simp only[Rg.upd]
 congr 1
 funext j;split<;>rfl
theorem dh {w:World} {g:Rg} {b:Nat} (a:Hid (aM w b 109 g.cs)):(loadVar 109 ⟨b,0,none⟩).run prog w= .ok (.agg g.cs) w:=
 run_loadVar_row w b _ _ g.cs _ _ a underlying109 rfl Qb
theorem jP {w:World} {b:Nat} {u0 u1 u2 u3 u4 u5 u6:Value} (a:Hid (aM w b 181 #[u0,u1,u2,u3,u4,u5,u6])):(loadVar 181 ⟨b,0,none⟩).run prog w= .ok (.agg #[u0,u1,u2,u3,u4,u5,u6]) w:=
 run_loadVar_row w b _ _ _ _ _ a underlying181 rfl Qb
theorem fN (g:Rg):g.cs.all (·.oneCell')=true:=by simp[Rg.cs,Value.oneCell']
theorem kG (g:Rg):g.cs[16]? =some (.int .i64 g.pc):=rfl
theorem s_ (n:Int) (w:World):Calls prog 146 #[.int .i64 n] w λe w'=>e= .returned (.agg #[.int .i64 2, .int .i64 n, .int .i64 0, .int .i64 0, .int .i64 0, .int .i64 0, .int .i64 0])/\au w w':=by
 go_enter func146,ntmps146;have a:=(aq w 181 #[.int .i64 2, .int .i64 n, .int .i64 0, .int .i64 0, .int .i64 0, .int .i64 0, .int .i64 0]).cell;go_wp2_with fail;exact bodyPost_ret (v:= .agg #[.int .i64 2, .int .i64 n, .int .i64 0, .int .i64 0, .int .i64 0, .int .i64 0, .int .i64 0]) (by simp[results,results146,go_sem,a]) rfl ⟨rfl,aa w _⟩
theorem DX (g:Rg) (b ag c:Nat) (b0 b1 b2 b3:UInt8) (k H F z:Nat) (ld:Int) (w:World) (aD:FT w) (aE:vu w b ag b0 b1 b2 b3) (aC:4<=c) (aB:c<=maxLen) (az:fH b0 b1 b2 b3=some ⟨k,H,F,z,0⟩) (ad:k=4\/k=5\/k=6\/k=7\/k=8\/k=9\/k=10\/k=11\/k=12\/k=13)
  (ha:H<16) (aZ:F<16) (aY:z<16) (aV:0<=g.pc/\g.pc<=1000000) (ax: -2147483648<=g.r F/\g.r F<=2147483647) (Z:k=7\/k=8->g.r z≠0):
  Calls prog 92 #[.agg g.cs, .slice (some ⟨b,ag,none⟩) 4 c, .int .i64 ld] w λe w'=>e= .returned (.tuple #[.agg (Rg.upd ⟨g.r,g.pc+4⟩ H (lS k (g.r F) (g.r z))).cs, .int .i64 0, .agg #[.int .i64 0, .int .i64 0, .int .i64 0, .int .i64 0, .int .i64 0, .int .i64 0, .int .i64 0]])/\au w w':=by
 have aG:=G (λW (ab:au w W)=>show Calls prog 86 #[.slice (some ⟨b,ag,none⟩) 4 c] W λe w'=>e= .returned (.tuple #[.agg #[.int .i64 k, .int .i64 H, .int .i64 F, .int .i64 z, .int .i64 0], .int .i64 0])/\au W w' from by
  have:=fe b ag c b0 b1 b2 b3 W (aD.ext ab) (aE.ext ab) aC aB;rw[az]at this
  exact this)
 have aF:=G (λW=>show Calls prog 145 #[.agg g.cs, .agg #[.int .i64 k, .int .i64 H, .int .i64 F, .int .i64 z, .int .i64 0]] W λe w'=>e= .returned (.tuple #[.int .i64 0, .int .i64 0])/\au W w' from by
  have:=gP g ⟨k,H,F,z,0⟩ W (by simpa using ax) Qi Qi;unfold bR dl.val at this;rw[if_neg Qi,if_neg Qi]at this
  exact this)
 have aI:=G (λW=>zw k (g.r F) (g.r z) W ad Z);obtain⟨bt,bq⟩:=aV;have bp:IntKind.i64.wrap (g.pc+4)=g.pc+4:=Qc
 clear aD aE az aC aB ax;go_enter func92,ntmps92
 go_upto_region 1 with fail
 generalize y:World.alloc (World.alloc (World.alloc w _) _) _=W0;obtain⟨d,r,q,a,s⟩:=Fq y;replace d:=G d;clear y;replace ad:=G ad;replace Z:=G Z
 go_upto_region 2 with(go_at_call 86;refine(aG.out _ d.out).mono ?_;rintro e af ⟨rfl,o⟩;clear aG;replace d:=kx d o;replace r:=kb r o;replace q:=kb q o;replace a:=kb a o)
 generalize y:World.alloc af _=W1;obtain⟨o,x,a9⟩:=kZ y;replace d:=kx d o;replace r:=kb r o;replace q:=kb q o;replace a:=kb a o;clear y o;have V:=x.out.cell;have X:=r.out.cell
 go_upto_region 5 with(first|(refine ce rfl 109 _ rfl _ rfl _ (dh r) ?_)|(go_at_call 145;refine(aF.out _).mono ?_;rintro e M ⟨rfl,o⟩;clear aF V X;replace d:=kx d o;replace r:=kb r o;replace q:=kb q o;replace a:=kb a o;replace x:=kb x o;have V:=x.out.cell;have X:=r.out.cell;clear o))
 have bB:=js g z aY;have bC:=js g F aZ;have bD:=kG g;have aX:3<k/\k<14:=by have:=ad.out;omega
 obtain⟨aR,aQ⟩:=aX;have aA:k=7\/k=8\/(¬k=7/\ ¬k=8):=Qa
 obtain⟨A,R⟩: ∃A:Int,(k:Int)=A:=⟨_,rfl⟩
 rw[R]at x V aI;have bI:=G R;have ar: ¬A=1:=Qa
 have ap: ¬A=2:=Qa
 have ao: ¬A=3:=Qa
 have J: ∀j:Int,14<=j->(A==j)=false:=λj bu=>Qn.2 Qa;have bl:=Qn.2 ar;have be:=Qn.2 ap;have ba:=Qn.2 ao;have bk:=J 14 Qd;have bj:=J 15 Qd;have bi:=J 16 Qd;have bh:=J 17 Qd;have bg:=J 18 Qd;have bf:=J 19 Qd;have bd:=J 20 Qd;have bc:=J 21 Qd;have bb:=J 22 Qd
 have aH:=G (show(A==7)=true/\(g.r z==0)=false\/(A==7)=false/\(A==8)=true/\(g.r z==0)=false\/(A==7)=false/\(A==8)=false by
  rcases aA with ab|ab|⟨h1,h2⟩
  ·exact .inl ⟨beq_iff_eq.2 Qa,Qn.2 (Z.out (.inl ab))⟩
  ·exact .inr (.inl ⟨Qn.2 Qa,beq_iff_eq.2 Qa,Qn.2 (Z.out (.inr ab))⟩)
  ·exact .inr (.inr ⟨Qn.2 Qa,Qn.2 Qa⟩))
 have bn:w.heap.size+1+1<af.heap.size:=by have:=s.out;have:=dm o;omega
 generalize a2:lS k (g.r F) (g.r z)=ai at*;clear R ar ap ao J aA Z ad aR aQ
 go_upto_region 7 with fail
 rcases aH.out with⟨al,ak⟩|⟨al,ak,e3⟩|⟨al,ak⟩
 all_goals
  clear aH
  go_upto_region 9 with fail
  try clear e3
  clear al ak
  go_upto_region 10 with(first|(refine ce rfl 109 _ rfl _ rfl _ (dh r) ?_)|(refine wpList_store_row rfl 109 _ _ rfl _ _ rfl rfl _ _ (aq _ _ _) Qb rfl (fN _) ?_))
  generalize y:World.setRow (World.alloc M _) _ _=W3;obtain⟨ac,a8,u,I⟩:=qJ y (aq M _ _);have bm:w.heap.size+1+1<M.heap.size:=a.out.lt;replace r:=u _ _ _ Qa (kb r (aa M _));replace q:=u _ _ _ Qa (kb q (aa M _));replace a:=u _ _ _ Qa (kb a (aa M _));replace x:=u _ _ _ (by have:=x.out.lt;omega) (kb x (aa M _));replace d:=I _ (kx d (aa M _)) Qa;clear y u I X V;have V:=x.out.cell;have X:=r.out.cell;have fr:=r.out.frozen
  go_upto_region 12 with fail
  generalize y:World.setCell W3 _ _=W4;obtain⟨a7,ay,u,I⟩:=t6 y;replace r:=ay _ _ r;replace q:=u _ _ _ Qa q;replace a:=u _ _ _ Qa a;replace x:=u _ _ _ Qa x;replace ac:=u _ _ _ Qa ac;replace d:=I _ d Qa;rw[nq]at r;clear y u ay I X V fr;have V:=x.out.cell;have X:=r.out.cell;have fr:=r.out.frozen;have a3:=ac.out.cell
  go_upto_region 14 with fail
  refine cu (UW w.heap.size 109 (Rg.cs ⟨g.r,g.pc+4⟩) (Rg.upd ⟨g.r,g.pc+4⟩ H ai).cs) (UW.refl _ _ _ _) (UW.trans _ _ _ _) 15 16 [(13,λv=>v= .int .i32 ai,λ_ _=>True)] [3,8] mixed Qb Qb Qb Qf ⟨λ_ _ _ _ _=>trivial,trivial⟩ ?_;clear V X fr a3;have bz:(F:Int)<16:=Qa
  have bv:(z:Int)<16:=Qa
  repeat (first|(refine bS Qf ?_;simp only[bA,bx,bw,br,bo])|(refine sx ?_ (λaf K=> ?_) ?_;rotate_left;(focus have bG:=(x.out.grown (aJ K.1) (λe=>by injection e with e;omega)).cell;have bF:=(ac.out.grown (aJ K.1) (λe=>by injection e with e;omega)).cell;clear K;go_simp<;>with_reducible rfl);simp only[bA,bx,bw,br,bo]))
  refine so (λaL K aj A R=> ?_) ?_
  ·clear aj K;go_simp;refine(aI.out aL).mono ?_;rintro e a6 ⟨rfl,rfl⟩;exact R _ _ (UW.refl _ _ _ _ _) rfl trivial
  rintro _ rfl;simp only[bA,bx,bw,br,bo];repeat (first|(refine bS Qf ?_;simp only[bA,bx,bw,br,bo])|(refine sx ?_ (λaf K=> ?_) ?_;rotate_left;(focus clear K;go_simp<;>with_reducible rfl);simp only[bA,bx,bw,br,bo]))
  intro aM av aj;clear aj;simp only[ae,aw];obtain⟨⟨a5,aS⟩,aT,K,an⟩:=av.store r.out H (.int .i32 ai) (.int .i32 (g.r H)) (p' _ _ _ ha) (Dg _ _ ha _) (js ⟨g.r,g.pc+4⟩ H ha) (yu _ _ ha _);have am:=G K;refine aO Qf Qe (λA R=> ?_);go_simp;refine R _ _ am.out ?_;clear R av aS aT K;refine cL ?_;generalize World.setCell aM _ _=a4 at*;replace r:=G an;have ah:=aJ am.out.1;replace q:=G (q.out.grown ah (λe=>by injection e with e;omega));replace a:=G (a.out.grown ah (λe=>by injection e with e;omega));replace d:=G (d.out.grown ah (λk e=>by injection e with e;omega));clear an ah am x ac;go_wp2_with (first|(refine ce rfl 109 _ rfl _ rfl _ (dh r) ?_)|(refine wpList_store_row rfl 109 _ _ rfl _ _ rfl rfl _ _ q.out Qb rfl (fN _) ?_;generalize y:World.setRow a4 _ _=W7;obtain⟨aP,_,u,I⟩:=qJ y q;replace d:=I _ d Qa;replace a:=u _ _ _ Qa a;clear y u I q r;have bH:=a.out.cell;have bE:=a.out.frozen));generalize y:World.setCell _ _ _=W8;obtain⟨aK,u,I⟩:=mG y a;have aN:=u _ _ _ Qa aP;have a1:=I _ d Qa;have aW:=dh aN;have aU:=jP aK;clear u I y;refine bodyPost_ret (v:= .tuple #[.agg (Rg.upd ⟨g.r,g.pc+4⟩ H ai).cs, .int .i64 0, .agg #[.int .i64 0, .int .i64 0, .int .i64 0, .int .i64 0, .int .i64 0, .int .i64 0, .int .i64 0]]) ?_ rfl ⟨by rw[a2],a1.out⟩;simp[results,results92,asAddr,aW,aU]
theorem nI {P:Program} {w:World} {a:Oper} {d:Operand->Value} (ty:TypeId) (x:Operand) (o:a.op= .load ty x) (g:Nat) (h:d x= .pointer (some ⟨g,0,none⟩)) (v:Value) (u:(loadVar ty ⟨g,0,none⟩).run P w= .ok v w):(execOp d a).run P w= .ok (.value v) w:=by
 simp[execOp,o,Instr.loadAt,Instr.sureAddr,h,u,Result.andThen]
theorem DW (g:Rg) (b I c:Nat) (b0 b1 b2 b3:UInt8) (k A z y:Nat) (ld:Int) (w:World) (ah:FT w) (ai:vu w b I b0 b1 b2 b3) (ag:4<=c) (af:c<=maxLen) (ad:fH b0 b1 b2 b3=some ⟨k,A,z,y,0⟩) (K:k=7\/k=8)
  (ha:A<16) (aG:z<16) (ax:y<16) (ac: -2147483648<=g.r z/\g.r z<=2147483647) (M:g.r y=0):
  Calls prog 92 #[.agg g.cs, .slice (some ⟨b,I,none⟩) 4 c, .int .i64 ld] w λe w'=>e= .returned (.tuple #[.agg g.cs, .int .i64 0, .agg #[.int .i64 2, .int .i64 2, .int .i64 0, .int .i64 0, .int .i64 0, .int .i64 0, .int .i64 0]])/\au w w':=by
 have am:=G (λW (aj:au w W)=>show Calls prog 86 #[.slice (some ⟨b,I,none⟩) 4 c] W λe w'=>e= .returned (.tuple #[.agg #[.int .i64 k, .int .i64 A, .int .i64 z, .int .i64 y, .int .i64 0], .int .i64 0])/\au W w' from by
  have:=fe b I c b0 b1 b2 b3 W (ah.ext aj) (ai.ext aj) ag af;rw[ad]at this
  exact this)
 have al:=G (λW=>show Calls prog 145 #[.agg g.cs, .agg #[.int .i64 k, .int .i64 A, .int .i64 z, .int .i64 y, .int .i64 0]] W λe w'=>e= .returned (.tuple #[.int .i64 0, .int .i64 0])/\au W w' from by
  have:=gP g ⟨k,A,z,y,0⟩ W (by simpa using ac) Qi Qi;unfold bR dl.val at this;rw[if_neg Qi,if_neg Qi]at this
  exact this)
 clear ah ai ad ag af ac;go_enter func92,ntmps92
 go_upto_region 1 with fail
 generalize u:World.alloc (World.alloc (World.alloc w _) _) _=W0;obtain⟨o,r,q,d,s⟩:=Fq u;replace o:=G o;clear u;replace K:=G K;replace M:=G M
 go_upto_region 2 with(go_at_call 86;refine(am.out _ o.out).mono ?_;rintro e ab ⟨rfl,a⟩;clear am;replace o:=kx o a;replace r:=kb r a;replace q:=kb q a;replace d:=kb d a)
 generalize u:World.alloc ab _=W1;obtain⟨a,x,aE⟩:=kZ u;replace o:=kx o a;replace r:=kb r a;replace q:=kb q a;replace d:=kb d a;clear u a;have X:=x.out.cell;have Z:=r.out.cell
 go_upto_region 5 with(first|(refine ce rfl 109 _ rfl _ rfl _ (dh r) ?_)|(go_at_call 145;refine(al.out _).mono ?_;rintro e aD ⟨rfl,a⟩;clear al X Z;replace o:=kx o a;replace r:=kb r a;replace q:=kb q a;replace d:=kb d a;replace x:=kb x a;have X:=x.out.cell;have Z:=r.out.cell;clear a))
 have ak:=js g y ax;rw[M.out]at ak;have aA:=G (λW=>s_ 2 W);rcases K.out with rfl|rfl;all_goals
  clear K M
  go_upto_region 8 with fail
  refine aB 2 2 [(1,λv=>v= .agg #[.int .i64 2, .int .i64 2, .int .i64 0, .int .i64 0, .int .i64 0, .int .i64 0, .int .i64 0],λ_ _=>True)] mixed Qb ⟨λ_ _ _ _ _=>trivial,trivial⟩ ?_;clear X Z ak;refine sx ?_ (λab V=> ?_) ?_;rotate_left;(focus rw[nI 109 (.tmp 3) rfl w.heap.size rfl _ (dh (kb r V.un))]);simp only[bA,bx,bw,br,bo];refine so (λao V R aJ az=> ?_) ?_
  ·clear R V;go_simp;refine(aA.out ao).mono ?_;rintro e aC ⟨rfl,a⟩;exact az _ _ a rfl trivial
  rintro _ rfl;simp only[bA,bx,bw,br,bo];intro aa J R;replace o:=kx o J.un;replace q:=kb q J.un;replace d:=kb d J.un;have aF:w.heap.size+1+1<aa.heap.size:=d.out.lt;clear R J r x;simp only[ae,aw];go_wp2_with (refine wpList_store_row rfl 109 _ _ rfl _ _ rfl rfl _ _ q.out Qb rfl (fN _) ?_;generalize u:World.setRow aa _ _=W7;obtain⟨aq,_,H,F⟩:=qJ u q;replace o:=F _ o Qa;replace d:=H _ _ _ Qa d;clear u H F q;have aI:=d.out.cell;have aH:=d.out.frozen);generalize u:World.setCell _ _ _=W8;obtain⟨an,H,F⟩:=mG u d;have ap:=H _ _ _ Qa aq;have ay:=F _ o Qa;have av:=dh ap;have ar:=jP an;clear H F u;refine bodyPost_ret (v:= .tuple #[.agg g.cs, .int .i64 0, .agg #[.int .i64 2, .int .i64 2, .int .i64 0, .int .i64 0, .int .i64 0, .int .i64 0, .int .i64 0]]) ?_ rfl ⟨rfl,ay.out⟩;simp[results,results92,asAddr,av,ar]
theorem DT (g:Rg) (b A c:Nat) (b0 b1 b2 b3:UInt8) (ld:Int) (w:World) (Z:FT w) (aa:vu w b A b0 b1 b2 b3) (X:4<=c) (V:c<=maxLen) (R:fH b0 b1 b2 b3=none):
  Calls prog 92 #[.agg g.cs, .slice (some ⟨b,A,none⟩) 4 c, .int .i64 ld] w λe w'=>e= .returned (.tuple #[.agg g.cs, .int .i64 0, .agg #[.int .i64 2, .int .i64 1, .int .i64 0, .int .i64 0, .int .i64 0, .int .i64 0, .int .i64 0]])/\au w w':=by
 have J:=G (λW (ab:au w W)=>show Calls prog 86 #[.slice (some ⟨b,A,none⟩) 4 c] W λe w'=>e=BG none/\au W w' from by
  have:=fe b A c b0 b1 b2 b3 W (Z.ext ab) (aa.ext ab) X V;rw[R]at this
  exact this)
 unfold BG at J;clear Z aa R X V;go_enter func92,ntmps92
 go_upto_region 1 with fail
 generalize u:World.alloc (World.alloc (World.alloc w _) _) _=W0;obtain⟨d,r,q,a,s⟩:=Fq u;replace d:=G d;clear u
 go_upto_region 2 with(go_at_call 86;refine(J.out _ d.out).mono ?_;rintro e M ⟨rfl,o⟩;clear J;replace d:=kx d o;replace r:=kb r o;replace q:=kb q o;replace a:=kb a o)
 generalize u:World.alloc M _=W1;obtain⟨o,x,aq⟩:=kZ u;replace d:=kx d o;replace r:=kb r o;replace q:=kb q o;replace a:=kb a o;clear u o;have ao:=G (λW=>s_ 1 W);have am:=x.out.cell;have an:=r.out.cell;have al:True:=trivial
 go_upto_region 3 with fail
 refine aB 2 2 [(1,λv=>v= .agg #[.int .i64 2, .int .i64 1, .int .i64 0, .int .i64 0, .int .i64 0, .int .i64 0, .int .i64 0],λ_ _=>True)] mixed Qb ⟨λ_ _ _ _ _=>trivial,trivial⟩ ?_;clear am an al;refine sx ?_ (λM I=> ?_) ?_;rotate_left;(focus rw[nI 109 (.tmp 3) rfl w.heap.size rfl _ (dh (kb r I.un))]);simp only[bA,bx,bw,br,bo];refine so (λad I H ay ak=> ?_) ?_
 ·clear H I;go_simp;refine(ao.out ad).mono ?_;rintro e ap ⟨rfl,o⟩;exact ak _ _ o rfl trivial
 rintro _ rfl;simp only[bA,bx,bw,br,bo];intro K F H;replace d:=kx d F.un;replace q:=kb q F.un;replace a:=kb a F.un;have ar:w.heap.size+1+1<K.heap.size:=a.out.lt;clear H F r x;simp only[ae,aw];go_wp2_with (refine wpList_store_row rfl 109 _ _ rfl _ _ rfl rfl _ _ q.out Qb rfl (fN _) ?_;generalize u:World.setRow K _ _=W7;obtain⟨ag,_,z,y⟩:=qJ u q;replace d:=y _ d Qa;replace a:=z _ _ _ Qa a;clear u z y q;have ax:=a.out.cell;have av:=a.out.frozen);generalize u:World.setCell _ _ _=W8;obtain⟨ac,z,y⟩:=mG u a;have af:=z _ _ _ Qa ag;have aj:=y _ d Qa;have ai:=dh af;have ah:=jP ac;clear z y u;refine bodyPost_ret (v:= .tuple #[.agg g.cs, .int .i64 0, .agg #[.int .i64 2, .int .i64 1, .int .i64 0, .int .i64 0, .int .i64 0, .int .i64 0, .int .i64 0]]) ?_ rfl ⟨rfl,aj.out⟩;simp[results,results92,asAddr,ai,ah]
theorem DU (g:Rg) (b J c:Nat) (b0 b1 b2 b3:UInt8) (x:dl) (y S:Int) (ld:Int) (w:World) (aj:FT w) (ak:vu w b J b0 b1 b2 b3) (ag:4<=c) (af:c<=maxLen) (ad:fH b0 b1 b2 b3=some x) (ay:x.b<16) (ax:0<=x.b)
  (V: -2147483648<=g.r x.b.toNat/\g.r x.b.toNat<=2147483647) (ap: -200<=x.c/\x.c<=300) (z:bR g x=(y,S)) (ai:S=1\/S=4) (aM: -5000000000<=y/\y<=5000000000) (I:y.tmod S≠0):
  Calls prog 92 #[.agg g.cs, .slice (some ⟨b,J,none⟩) 4 c, .int .i64 ld] w λe w'=>e= .returned (.tuple #[.agg g.cs, .int .i64 0, .agg #[.int .i64 2, .int .i64 3, .int .i64 0, .int .i64 0, .int .i64 0, .int .i64 0, .int .i64 0]])/\au w w':=by
 have R:=G (λW (A:au w W)=>show Calls prog 86 #[.slice (some ⟨b,J,none⟩) 4 c] W λe w'=>e= .returned (.tuple #[x.val, .int .i64 0])/\au W w' from by
  have:=fe b J c b0 b1 b2 b3 W (aj.ext A) (ak.ext A) ag af;rw[ad]at this
  exact this)
 have M:=G (λW=>show Calls prog 145 #[.agg g.cs,x.val] W λe w'=>e= .returned (.tuple #[.int .i64 y, .int .i64 S])/\au W w' from by
  have:=gP g x W (by first|exact V|simpa using V) Qa Qa;rw[z]at this
  exact this)
 have aA:S=4:=by
  rcases ai with A|A
  ·subst A;exact absurd (Int.tmod_one y) I
  ·exact A
 subst aA;obtain⟨k,aK,aJ,aI,v⟩:=x;unfold dl.val at R M;simp only at R M;clear aj ak ad ag af V z ay ax ap ai;go_enter func92,ntmps92
 go_upto_region 1 with fail
 generalize u:World.alloc (World.alloc (World.alloc w _) _) _=W0;obtain⟨o,r,q,d,s⟩:=Fq u;replace o:=G o;clear u;replace I:=G I
 go_upto_region 2 with(go_at_call 86;refine(R.out _ o.out).mono ?_;rintro e ac ⟨rfl,a⟩;clear R;replace o:=kx o a;replace r:=kb r a;replace q:=kb q a;replace d:=kb d a)
 generalize u:World.alloc ac _=W1;obtain⟨a,x,aH⟩:=kZ u;replace o:=kx o a;replace r:=kb r a;replace q:=kb q a;replace d:=kb d a;clear u a;have Z:=x.out.cell;have aa:=r.out.cell;have aD:True:=trivial
 go_upto_region 5 with(first|(refine ce rfl 109 _ rfl _ rfl _ (dh r) ?_)|(go_at_call 145;refine(M.out _).mono ?_;rintro e aG ⟨rfl,a⟩;clear M Z aa;replace o:=kx o a;replace r:=kb r a;replace q:=kb q a;replace d:=kb d a;replace x:=kb x a;have Z:=x.out.cell;have aa:=r.out.cell;clear a))
 have aE:=G (λW=>s_ 3 W);obtain⟨T,ah⟩: ∃T,y.tmod 4=T:=⟨_,rfl⟩
 have ar:(T==0)=false:=Qn.2 (ah▸I.out)
 go_upto_region 6 with fail
 clear ar ah I;generalize (T !=0)=bb;refine aB 2 2 [(1,λv=>v= .agg #[.int .i64 2, .int .i64 3, .int .i64 0, .int .i64 0, .int .i64 0, .int .i64 0, .int .i64 0],λ_ _=>True)] mixed Qb ⟨λ_ _ _ _ _=>trivial,trivial⟩ ?_;clear Z aa aD;refine sx ?_ (λac X=> ?_) ?_;rotate_left;(focus rw[nI 109 (.tmp 3) rfl w.heap.size rfl _ (dh (kb r X.un))]);simp only[bA,bx,bw,br,bo];refine so (λam X z aP aC=> ?_) ?_
 ·clear z X;go_simp;refine(aE.out am).mono ?_;rintro e aF ⟨rfl,a⟩;exact aC _ _ a rfl trivial
 rintro _ rfl;simp only[bA,bx,bw,br,bo];intro ab K z;replace o:=kx o K.un;replace q:=kb q K.un;replace d:=kb d K.un;have aL:w.heap.size+1+1<ab.heap.size:=d.out.lt;clear z K r x;simp only[ae,aw];go_wp2_with (refine wpList_store_row rfl 109 _ _ rfl _ _ rfl rfl _ _ q.out Qb rfl (fN _) ?_;generalize u:World.setRow ab _ _=W7;obtain⟨ao,_,H,F⟩:=qJ u q;replace o:=F _ o Qa;replace d:=H _ _ _ Qa d;clear u H F q;have aO:=d.out.cell;have aN:=d.out.frozen);generalize u:World.setCell _ _ _=W8;obtain⟨al,H,F⟩:=mG u d;have an:=H _ _ _ Qa ao;have az:=F _ o Qa;have av:=dh an;have aq:=jP al;clear H F u;refine bodyPost_ret (v:= .tuple #[.agg g.cs, .int .i64 0, .agg #[.int .i64 2, .int .i64 3, .int .i64 0, .int .i64 0, .int .i64 0, .int .i64 0, .int .i64 0]]) ?_ rfl ⟨rfl,az.out⟩;simp[results,results92,asAddr,av,aq]
theorem Hl {w W:World} {g i:Nat} {v:Value} (F:(w.setCell ⟨g,i,none⟩ v).drew=W):Hid (W.heap.size=w.heap.size)/\(∀t cs,Hid (aM w g t cs)->Hid (aM W g t (cs.setIfInBounds i v)))/\(∀k t cs,k≠g->Hid (aM w k t cs)->Hid (aM W k t cs))/\ ∀w0,Hid (au w0 w)->w0.heap.size<=g->Hid (au w0 W):=by
 subst F;obtain⟨A,z,y,u⟩:=t6 (w:=w) (g:=g) (i:=i) (v:=v) rfl;exact⟨A,λt cs a=>lV (z t cs a),λk t cs d a=>lV (y k t cs d a),λw0 o h=>r7 (u w0 o h) (eJ (aG _))⟩
def IF (g:Rg) (k ra rb:Nat) (xc xv ld:Int):Int:=if k=1 then xv else if k=2 then wrap32 (g.r ra+xv*65536)else if k=3 then wrap32 (g.r rb+wrap32 xc)else if k=14 then wrap32 ld else ld%256
theorem DR (g:Rg) (b Z c:Nat) (b0 b1 b2 b3:UInt8) (k H F:Nat) (I A:Int) (ld:Int) (w:World) (ah:FT w) (ai:vu w b Z b0 b1 b2 b3) (ag:4<=c) (af:c<=maxLen) (ae:fH b0 b1 b2 b3=some ⟨k,H,F,I,A⟩) (ax:k=1\/k=2\/k=3\/k=14\/k=16)
  (ha:H<16) (ay:F<16) (av:0<=g.pc/\g.pc<=1000000) (ad: -2147483648<=g.r F/\g.r F<=2147483647) (ac: -200<=I/\I<=300) (ap: -32768<=A/\A<=32767) (aR:k=14->(g.r F+I).tmod 4=0):
  Calls prog 92 #[.agg g.cs, .slice (some ⟨b,Z,none⟩) 4 c, .int .i64 ld] w λe w'=>e= .returned (.tuple #[.agg (Rg.upd ⟨g.r,g.pc+4⟩ H (IF g k H F I A ld)).cs, .int .i64 0, .agg #[.int .i64 0, .int .i64 0, .int .i64 0, .int .i64 0, .int .i64 0, .int .i64 0, .int .i64 0]])/\au w w':=by
 have al:=G (λW (aj:au w W)=>show Calls prog 86 #[.slice (some ⟨b,Z,none⟩) 4 c] W λe w'=>e= .returned (.tuple #[.agg #[.int .i64 k, .int .i64 H, .int .i64 F, .int .i64 I, .int .i64 A], .int .i64 0])/\au W w' from by
  have:=fe b Z c b0 b1 b2 b3 W (ah.ext aj) (ai.ext aj) ag af;rw[ae]at this
  exact this)
 have V:=G (λW=>show Calls prog 145 #[.agg g.cs, .agg #[.int .i64 k, .int .i64 H, .int .i64 F, .int .i64 I, .int .i64 A]] W λe w'=>e= .returned (.tuple #[.int .i64 (bR g ⟨k,H,F,I,A⟩).1, .int .i64 (bR g ⟨k,H,F,I,A⟩).2])/\au W w' from
  gP g ⟨k,H,F,I,A⟩ W (by simpa using ad) Qi ac)
 obtain⟨aP,aO⟩:=av;obtain⟨aK,aJ⟩:=ap;have aL:IntKind.i64.wrap (g.pc+4)=g.pc+4:=Qc
 have aM:IntKind.i64.wrap (4*A)=4*A:=Qc
 have aN:IntKind.i64.wrap (g.pc+4+4*A)=g.pc+4+4*A:=Qc
 clear ah ai ae ag af ad ac;unfold bR at V;simp only[bW]at V;have aS:(H:Int)<16:=Qa
 have aQ:(F:Int)<16:=Qa
 rcases ax with rfl|rfl|rfl|rfl|rfl;all_goals
  simp at V;go_enter func92,ntmps92
  go_upto_region 1 with fail
  generalize a:World.alloc (World.alloc (World.alloc w _) _) _=W0;obtain⟨u,r,q,o,s⟩:=Fq a;replace u:=G u;clear a
  go_upto_region 2 with(go_at_call 86;refine(al.out _ u.out).mono ?_;rintro e ab ⟨rfl,y⟩;have aI:w.heap.size+1+1<ab.heap.size:=(by have:=s.out;have:=dm y;omega);clear al;replace u:=kx u y;replace r:=kb r y;replace q:=kb q y;replace o:=kb o y)
  generalize a:World.alloc ab _=W1;obtain⟨y,x,aG⟩:=kZ a;replace u:=kx u y;replace r:=kb r y;replace q:=kb q y;replace o:=kb o y;clear a y;have K:=x.out.cell;have M:=r.out.cell
  go_upto_region 5 with(first|(refine ce rfl 109 _ rfl _ rfl _ (dh r) ?_)|(go_at_call 145;refine(V.out _).mono ?_;rintro e J ⟨rfl,y⟩;clear V K M;replace u:=kx u y;replace r:=kb r y;replace q:=kb q y;replace o:=kb o y;replace x:=kb x y;have K:=x.out.cell;have M:=r.out.cell;clear y))
  have aB:=kG g
  go_upto_region 9 with fail
  go_upto_region 10 with(first|(refine ce rfl 109 _ rfl _ rfl _ (dh r) ?_)|(refine wpList_store_row rfl 109 _ _ rfl _ _ rfl rfl _ _ (aq _ _ _) Qb rfl (fN _) ?_))
  generalize a:World.setRow (World.alloc J _) _ _=W3;obtain⟨X,aF,d,z⟩:=qJ a (aq J _ _);have aH:w.heap.size+1+1<J.heap.size:=o.out.lt;replace r:=d _ _ _ Qa (kb r (aa J _));replace q:=d _ _ _ Qa (kb q (aa J _));replace o:=d _ _ _ Qa (kb o (aa J _));replace x:=d _ _ _ (by have:=x.out.lt;omega) (kb x (aa J _));replace u:=z _ (kx u (aa J _)) Qa;clear a d z M K;have K:=x.out.cell;have M:=r.out.cell;have fr:=r.out.frozen
  go_upto_region 12 with fail
  generalize a:World.setCell W3 _ _=W4;obtain⟨aE,R,d,z⟩:=t6 a;replace r:=R _ _ r;replace q:=d _ _ _ Qa q;replace o:=d _ _ _ Qa o;replace x:=d _ _ _ Qa x;replace X:=d _ _ _ Qa X;replace u:=z _ u Qa;rw[nq]at r;clear a d R z M K fr;have K:=x.out.cell;have M:=r.out.cell;have fr:=r.out.frozen;have aC:=X.out.cell;have ak:=js ⟨g.r,g.pc+4⟩ H ha;have aA:=js g F ay;simp only at ak
 focus (go_upto_region 42 with fail;generalize a:World.setCell W4 _ _=W5;replace a:=t6 a)
 rotate_left
 focus (go_upto_region 18 with fail;go_region;go_upto_region 42 with fail;generalize a:World.drew (World.setCell W4 _ _)=W5;replace a:=Hl a)
 rotate_left
 focus (go_upto_region 20 with fail;go_region;go_upto_region 42 with fail;generalize a:World.drew (World.setCell W4 _ _)=W5;replace a:=Hl a)
 rotate_left
 focus (go_upto_region 42 with fail;generalize a:World.setCell W4 _ _=W5;replace a:=t6 a)
 rotate_left
 focus (go_upto_region 42 with fail;generalize a:World.setCell W4 _ _=W5;replace a:=t6 a)
 rotate_left;all_goals
  obtain⟨aD,R,d,z⟩:=a;replace r:=R _ _ r;replace q:=d _ _ _ Qa q;replace o:=d _ _ _ Qa o;replace u:=z _ u Qa;rw[p' _ _ _ ha]at r;clear R d z K M fr aC x X ak aA aB;go_wp2_with (first|(refine ce rfl 109 _ rfl _ rfl _ (dh r) ?_)|(refine wpList_store_row rfl 109 _ _ rfl _ _ rfl rfl _ _ q.out Qb rfl (fN _) ?_;generalize a:World.setRow W5 _ _=W7;obtain⟨ao,_,d,z⟩:=qJ a q;replace u:=z _ u Qa;replace o:=d _ _ _ Qa o;clear a d z q r;have aU:=o.out.cell;have aT:=o.out.frozen));generalize a:World.setCell _ _ _=W8;obtain⟨am,d,z⟩:=mG a o;have an:=d _ _ _ Qa ao;have az:=z _ u Qa;have aw:=dh an;have ar:=jP am;clear d z a;refine bodyPost_ret (v:= .tuple #[.agg (Rg.upd ⟨g.r,g.pc+4⟩ H _).cs, .int .i64 0, .agg #[.int .i64 0, .int .i64 0, .int .i64 0, .int .i64 0, .int .i64 0, .int .i64 0, .int .i64 0]]) ?_ rfl ⟨rfl,az.out⟩;simp[results,results92,asAddr,aw,ar,IF]
def H_ (g:Rg) (ra:Nat) (xv:Int):Nat->Rg
 |18=>⟨g.r,g.pc+4+4*xv⟩
 |19=>⟨g.r,cond (g.r ra==0) (g.pc+4+4*xv) (g.pc+4)⟩
 |20=>⟨(Rg.upd g ra (g.pc+4)).r,g.pc+4+4*xv⟩
 | _=>⟨g.r,wrap64 (g.r ra)⟩
theorem DV (g:Rg) (b ac c:Nat) (b0 b1 b2 b3:UInt8) (k I H:Nat) (J A:Int) (ld:Int) (w:World) (aj:FT w) (ak:vu w b ac b0 b1 b2 b3) (ai:4<=c) (ah:c<=maxLen) (ag:fH b0 b1 b2 b3=some ⟨k,I,H,J,A⟩) (aC:k=18\/k=19\/k=20\/k=21)
  (ha:I<16) (aD:H<16) (aA:0<=g.pc/\g.pc<=1000000) (af: -2147483648<=g.r H/\g.r H<=2147483647) (ae: -200<=J/\J<=300) (ay: -32768<=A/\A<=32767):
  Calls prog 92 #[.agg g.cs, .slice (some ⟨b,ac,none⟩) 4 c, .int .i64 ld] w λe w'=>e= .returned (.tuple #[.agg (H_ g I A k).cs, .int .i64 0, .agg #[.int .i64 0, .int .i64 0, .int .i64 0, .int .i64 0, .int .i64 0, .int .i64 0, .int .i64 0]])/\au w w':=by
 have ao:=G (λW (al:au w W)=>show Calls prog 86 #[.slice (some ⟨b,ac,none⟩) 4 c] W λe w'=>e= .returned (.tuple #[.agg #[.int .i64 k, .int .i64 I, .int .i64 H, .int .i64 J, .int .i64 A], .int .i64 0])/\au W w' from by
  have:=fe b ac c b0 b1 b2 b3 W (aj.ext al) (ak.ext al) ai ah;rw[ag]at this
  exact this)
 have X:=G (λW=>show Calls prog 145 #[.agg g.cs, .agg #[.int .i64 k, .int .i64 I, .int .i64 H, .int .i64 J, .int .i64 A]] W λe w'=>e= .returned (.tuple #[.int .i64 (bR g ⟨k,I,H,J,A⟩).1, .int .i64 (bR g ⟨k,I,H,J,A⟩).2])/\au W w' from
  gP g ⟨k,I,H,J,A⟩ W (by simpa using af) Qi ae)
 obtain⟨aT,aS⟩:=aA;obtain⟨aO,aN⟩:=ay;have aP:IntKind.i64.wrap (g.pc+4)=g.pc+4:=Qc
 have aQ:IntKind.i64.wrap (4*A)=4*A:=Qc
 have aR:IntKind.i64.wrap (g.pc+4+4*A)=g.pc+4+4*A:=Qc
 clear aj ak ag ai ah af ae;unfold bR at X;simp only[bW]at X;have aV:(I:Int)<16:=Qa
 have aU:(H:Int)<16:=Qa
 obtain⟨ar,ax⟩: ∃t:Bool,(g.r I==0)=t:=⟨_,rfl⟩
 rcases aC with rfl|rfl|rfl|rfl;all_goals
  simp at X;go_enter func92,ntmps92
  go_upto_region 1 with fail
  generalize d:World.alloc (World.alloc (World.alloc w _) _) _=W0;obtain⟨u,r,q,o,s⟩:=Fq d;replace u:=G u;clear d
  go_upto_region 2 with(go_at_call 86;refine(ao.out _ u.out).mono ?_;rintro e ad ⟨rfl,z⟩;have aM:w.heap.size+1+1<ad.heap.size:=(by have:=s.out;have:=dm z;omega);clear ao;replace u:=kx u z;replace r:=kb r z;replace q:=kb q z;replace o:=kb o z)
  generalize d:World.alloc ad _=W1;obtain⟨z,x,aK⟩:=kZ d;replace u:=kx u z;replace r:=kb r z;replace q:=kb q z;replace o:=kb o z;clear d z;have M:=x.out.cell;have R:=r.out.cell
  go_upto_region 5 with(first|(refine ce rfl 109 _ rfl _ rfl _ (dh r) ?_)|(go_at_call 145;refine(X.out _).mono ?_;rintro e K ⟨rfl,z⟩;clear X M R;replace u:=kx u z;replace r:=kb r z;replace q:=kb q z;replace o:=kb o z;replace x:=kb x z;have M:=x.out.cell;have R:=r.out.cell;clear z))
  have aG:=kG g
  go_upto_region 9 with fail
  go_upto_region 10 with(first|(refine ce rfl 109 _ rfl _ rfl _ (dh r) ?_)|(refine wpList_store_row rfl 109 _ _ rfl _ _ rfl rfl _ _ (aq _ _ _) Qb rfl (fN _) ?_))
  generalize d:World.setRow (World.alloc K _) _ _=W3;obtain⟨Z,aJ,a,y⟩:=qJ d (aq K _ _);have aL:w.heap.size+1+1<K.heap.size:=o.out.lt;replace r:=a _ _ _ Qa (kb r (aa K _));replace q:=a _ _ _ Qa (kb q (aa K _));replace o:=a _ _ _ Qa (kb o (aa K _));replace x:=a _ _ _ (by have:=x.out.lt;omega) (kb x (aa K _));replace u:=y _ (kx u (aa K _)) Qa;clear d a y R M;have M:=x.out.cell;have R:=r.out.cell;have fr:=r.out.frozen
  go_upto_region 12 with fail
  generalize d:World.setCell W3 _ _=W4;obtain⟨aI,F,a,y⟩:=t6 d;replace r:=F _ _ r;replace q:=a _ _ _ Qa q;replace o:=a _ _ _ Qa o;replace x:=a _ _ _ Qa x;replace Z:=a _ _ _ Qa Z;replace u:=y _ u Qa;rw[nq]at r;clear d a F y R M fr;have M:=x.out.cell;have R:=r.out.cell;have fr:=r.out.frozen;have aH:=Z.out.cell;have am:=js ⟨g.r,g.pc+4⟩ I ha;have aF:=js g H aD;simp only at am;have an:=kG ⟨g.r,g.pc+4⟩;simp only at an
 focus (go_upto_region 42 with fail;generalize d:World.setCell W4 _ _=V;obtain⟨ab,F,a,y⟩:=t6 d;replace r:=F _ _ r;replace q:=a _ _ _ Qa q;replace o:=a _ _ _ Qa o;replace u:=y _ u Qa;rw[nq]at r)
 rotate_left
 focus (cases ar;(focus (go_upto_region 42 with fail;generalize W4=V at*));rotate_left;(go_upto_region 42 with fail;generalize d:World.setCell W4 _ _=V;obtain⟨ab,F,a,y⟩:=t6 d;replace r:=F _ _ r;replace q:=a _ _ _ Qa q;replace o:=a _ _ _ Qa o;replace u:=y _ u Qa;rw[nq]at r))
 rotate_left 2
 focus (go_upto_region 42 with fail;generalize d:World.setCell W4 _ _=W6;obtain⟨ab,F,a,y⟩:=t6 d;replace r:=F _ _ r;replace q:=a _ _ _ Qa q;replace o:=a _ _ _ Qa o;replace u:=y _ u Qa;rw[p' _ _ _ ha]at r;generalize d:World.setCell W6 _ _=V;obtain⟨ab,F,a,y⟩:=t6 d;replace r:=F _ _ r;replace q:=a _ _ _ Qa q;replace o:=a _ _ _ Qa o;replace u:=y _ u Qa;rw[nq]at r)
 rotate_left
 focus (go_upto_region 42 with fail;generalize d:World.setCell W4 _ _=V;obtain⟨ab,F,a,y⟩:=t6 d;replace r:=F _ _ r;replace q:=a _ _ _ Qa q;replace o:=a _ _ _ Qa o;replace u:=y _ u Qa;rw[nq]at r)
 all_goals
  clear M R fr aH x Z am aF aG an;try clear F a y
  go_wp2_with (first|(refine ce rfl 109 _ rfl _ rfl _ (dh r) ?_)|(refine wpList_store_row rfl 109 _ _ rfl _ _ rfl rfl _ _ q.out Qb rfl (fN _) ?_;generalize d:World.setRow V _ _=W7;obtain⟨aw,_,a,y⟩:=qJ d q;replace u:=y _ u Qa;replace o:=a _ _ _ Qa o;clear d a y q r;have aX:=o.out.cell;have aW:=o.out.frozen));generalize d:World.setCell _ _ _=W8;obtain⟨ap,a,y⟩:=mG d o;have av:=a _ _ _ Qa aw;have aE:=y _ u Qa;have aB:=dh av;have az:=jP ap;clear a y d;refine bodyPost_ret (v:= .tuple #[.agg (Rg.cs _), .int .i64 0, .agg #[.int .i64 0, .int .i64 0, .int .i64 0, .int .i64 0, .int .i64 0, .int .i64 0, .int .i64 0]]) ?_ rfl ⟨rfl,aE.out⟩;simp[results,results92,asAddr,aB,az];first|rfl|(unfold H_;simp only[ax,cond];done)
end
end Go.Proofs.YtoedmpgicdekmaaGreatDoor
