/-
  Parts of the proof: CpB CpC.
-/
import Derived.Test.YtddomeddabfinaaGreatDoorTz00
import Derived.Deep.CutBlock
import Derived.Test.YtddomeddabfinaaGreatDoorTz34
set_option maxRecDepth 100000
set_option maxHeartbeats 8000000
set_option linter.unusedVariables false
set_option linter.unusedSimpArgs false
set_option linter.unusedSectionVars false
namespace Go.Proofs.YtddomeddabfinaaGreatDoor
open Go.Proofs.Tryz
section
open Go.RowKit
structure kS where
 op:Nat
 a:Int
 b:Int
 c:Int
 v:Int
def i_ (n:Int) (u:Bool):Bool:=n==0||(u&&decide (0<n)&&decide (n<16))
def DD (n:Nat) (c:Int):Bool:=if(ic n).2.2.2.2.2=true then decide (-128<=c)&&decide (c<=127)else i_ c (ic n).2.2.2.1
def Dy (n:Nat) (v:Int):Bool:=v==0||((ic n).2.2.2.2.1&&decide (-32768<=v)&&decide (v<=32767))
def lT (x:kS):Bool:=decide (1<=x.op)&&decide (x.op<=22)&&(i_ x.a (ic x.op).2.1&&i_ x.b (ic x.op).2.2.1&&DD x.op x.c&&Dy x.op x.v)
def kS.val (x:kS):Value:= .agg #[.int .i64 x.op, .int .i64 x.a, .int .i64 x.b, .int .i64 x.c, .int .i64 x.v]
theorem mz (x:kS) (w:World) (h:FT w):Calls prog 105 #[x.val] w fun e w'=>e= .returned (.bool (lT x))/\aq w w':=by
 obtain⟨k,a,b,c,v⟩:=x;unfold kS.val;have HL:=G (show lT ⟨k,a,b,c,v⟩=(decide (1<=k)&&decide (k<=22)&&(i_ a (ic k).2.1&&i_ b (ic k).2.2.1&&DD k c&&Dy k v))from rfl);generalize hl:lT ⟨k,a,b,c,v⟩=L at*;clear hl;have HX:=G (O w (.cells #[.int .i64 k, .int .i64 a, .int .i64 b, .int .i64 c, .int .i64 v] 158));by_cases h1:1<=k
 rotate_left
 ·have h1:(k:Int)<1:=by omega
  have HR:=G (show L=false by rw[HL.out];simp[show ¬1<=k by omega]);clear h HL;go_enter func105,ntmps105;go_wp2_with fail;go_ret;exact⟨by rw[HR.out];rfl,HX.out⟩
 by_cases h2:k<=22
 rotate_left
 ·have h2:(22:Int)<k:=by omega
  have h1: ¬(k:Int)<1:=by omega
  have HR:=G (show L=false by rw[HL.out];simp[show ¬k<=22 by omega]);clear h HL;go_enter func105,ntmps105;go_wp2_with fail;go_ret;exact⟨by rw[HR.out];rfl,HX.out⟩
 have hk1: ¬(k:Int)<1:=by omega
 have hk2: ¬(22:Int)<k:=by omega
 have hk23:k<23:=by omega
 have HR:=G (show L=(i_ a (ic k).2.1&&i_ b (ic k).2.2.1&&DD k c&&Dy k v) by rw[HL.out];simp[h1,h2]);have hA:=qb a (ic k).2.1;have hB:=qb b (ic k).2.2.1;have hC:=qb c (ic k).2.2.2.1;obtain⟨f0,f1,f2,f3,f4,f5⟩:=(h.ext HX.out).row k (by omega);unfold DD Dy at HR;generalize (ic k).1=n0 at*;generalize (ic k).2.1=n1 at*;generalize (ic k).2.2.1=n2 at*;generalize (ic k).2.2.2.1=n3 at*;generalize (ic k).2.2.2.2.1=n4 at*;generalize (ic k).2.2.2.2.2=n5 at*;have HA:=G (show ∀W,Calls prog 149 #[.int .i64 a, .bool n1] W fun e w'=>e= .returned (.bool (i_ a n1))/\W=w' from hA);have HB:=G (show ∀W,Calls prog 149 #[.int .i64 b, .bool n2] W fun e w'=>e= .returned (.bool (i_ b n2))/\W=w' from hB);have HC:=G (show ∀W,Calls prog 149 #[.int .i64 c, .bool n3] W fun e w'=>e= .returned (.bool (i_ c n3))/\W=w' from hC);generalize i_ a n1=ra at*;generalize i_ b n2=rb at*;generalize i_ c n3=rc at*;clear h HL hA hB hC;have HX1:=G (HX.out.alloc' (.cells #[.string (ai n0), .bool n1, .bool n2, .bool n3, .bool n4, .bool n5] 214));go_enter func105,ntmps105
 go_upto_region 5 with(go_at_call 149;refine(HC.out _).mono ?_;rintro e w1 ⟨rfl,rfl⟩;clear HC)
 clear h1 h2 f0 f1 f2 f3 f4 f5;by_cases hv: -32768<=v<;>by_cases hc: -128<=c<;>by_cases hd:c<=127<;>cases n5
 all_goals try (exfalso;omega)
 all_goals (go_wp2_with (first|(go_at_call 149;refine(HA.out _).mono ?_;rintro e w1 ⟨rfl,rfl⟩;clear HA)|(go_at_call 149;refine(HB.out _).mono ?_;rintro e w1 ⟨rfl,rfl⟩;clear HB)))
 all_goals (go_ret;refine⟨?_,(O w _).alloc' _⟩;rw[HR.out];first|(simp_all;done)|(simp_all;omega))
end
section
open Go.RowKit
structure Rg where
 r:Nat->Int
 pc:Int
def Rg.cs (g:Rg):Array Value:= #[.int .i32 (g.r 0), .int .i32 (g.r 1), .int .i32 (g.r 2), .int .i32 (g.r 3), .int .i32 (g.r 4), .int .i32 (g.r 5), .int .i32 (g.r 6), .int .i32 (g.r 7), .int .i32 (g.r 8), .int .i32 (g.r 9), .int .i32 (g.r 10), .int .i32 (g.r 11), .int .i32 (g.r 12), .int .i32 (g.r 13), .int .i32 (g.r 14), .int .i32 (g.r 15), .int .i64 g.pc]
theorem o7 (g:Rg): ∀(i:Nat),i<16->g.cs[i]? =some (.int .i32 (g.r i)):=by
 intro i hi
 iterate 16 (rcases i with _|i;exact rfl)
 omega
def lk (g:Rg) (x:kS):Int×Int:=if x.op=14\/x.op=15 then(g.r x.b.toNat+x.c,4)else if x.op=16\/x.op=17 then(g.r x.b.toNat+x.c,1)else(0,0)
theorem o8 (g:Rg) (x:kS) (w:World) (hr: -2147483648<=g.r x.b.toNat/\g.r x.b.toNat<=2147483647) (hb:0<=x.b/\x.b<16) (hc: -200<=x.c/\x.c<=300):Calls prog 63 #[.agg g.cs,x.val] w fun e w'=>e= .returned (.tuple #[.int .i64 (lk g x).1, .int .i64 (lk g x).2])/\aq w w':=by
 obtain⟨k,a,b,c,v⟩:=x;obtain⟨b,rfl⟩:=cD hb.1;obtain⟨hb0,hb1⟩:=hb;obtain⟨hc0,hc1⟩:=hc;simp only[Int.ofNat_eq_natCast,cV]at*;obtain⟨hr0,hr1⟩:=hr;unfold kS.val;have hbn:b<16:=by omega
 simp only;obtain⟨z,hz⟩: ∃z:Int,(k:Int)=z:=⟨_,rfl⟩
 rw[hz];have HX:=G ((O w (.cells g.cs 93)).alloc' (.cells #[.int .i64 z, .int .i64 a, .int .i64 b, .int .i64 c, .int .i64 v] 158));have f0:=(((an w 93 g.cs).alloc (.cells #[.int .i64 z, .int .i64 a, .int .i64 b, .int .i64 c, .int .i64 v] 158)).cell b).trans (o7 g b hbn)
 have HP:=G (show lk g ⟨k,a,b,c,v⟩=if z=14\/z=15 then(g.r b+c,4)else if z=16\/z=17 then(g.r b+c,1)else(0,0) by
  unfold lk;simp only[cV,<-hz]
  simp only[show((k:Int)=14\/(k:Int)=15)=(k=14\/k=15) by simp only[eq_iff_iff];omega,show((k:Int)=16\/(k:Int)=17)=(k=16\/k=17) by simp only[eq_iff_iff];omega])
 generalize lk g ⟨k,a,b,c,v⟩=p at*;generalize g.r b=q at*;have hw:IntKind.i64.wrap (q+c)=q+c:=by simp[IntKind.wrap,IntKind.signed,IntKind.bits];omega
 clear hz;rcases(show z=14\/z=15\/z=16\/z=17\/(¬z=14/\ ¬z=15/\ ¬z=16/\ ¬z=17) by omega)with rfl|rfl|rfl|rfl|⟨h1,h2,h3,h4⟩
 rotate_right
 ·have e1:(z==14)=false:=beq_eq_false_iff_ne.2 h1;have e2:(z==15)=false:=beq_eq_false_iff_ne.2 h2;have e3:(z==16)=false:=beq_eq_false_iff_ne.2 h3;have e4:(z==17)=false:=beq_eq_false_iff_ne.2 h4;have HR:=G (show p=(0,0) by rw[HP.out,if_neg (by omega),if_neg (by omega)]);clear HP;go_enter func63,ntmps63;go_wp2_with fail
  go_quiet (fail)
  go_wp2_with fail;exact bodyPost_ret (v:= .tuple #[.int .i64 0, .int .i64 0]) (by simp[results,results63,go_sem]) rfl ⟨by rw[HR.out],HX.out.drewN _⟩
 all_goals
  go_enter func63,ntmps63;go_wp2_with fail
  go_quiet (fail)
  go_wp2_with fail;exact bodyPost_ret (v:= .tuple #[.int .i64 p.1, .int .i64 p.2]) (by rw[HP.out];simp[results,results63,go_sem]) rfl ⟨rfl,HX.out.drewN _⟩
def eP:Nat->Int->Int->Int
 |4,b,c=>wrap32 (b+c)
 |5,b,c=>wrap32 (b-c)
 |6,b,c=>wrap32 (b*c)
 |7,b,c=>wrap32 (b.tdiv c)
 |8,b,c=>b.tmod c
 |12,b,c=>if decide (b<c)=true then 1 else 0
 | _,b,c=>if decide (b=c)=true then 1 else 0
theorem AH (v:Bool) (w:World):Calls prog 106 #[.bool v] w fun e w'=>e= .returned (.int .i32 (if v=true then 1 else 0))/\w=w':=by
 cases v;all_goals
  go_enter func106,ntmps106;go_wp2_with fail;go_ret;exact⟨rfl,rfl⟩
theorem wc (k:Nat) (b c:Int) (w:World) (hk:k=4\/k=5\/k=6\/k=7\/k=8\/k=12\/k=13) (h0:k=7\/k=8->c≠0):Calls prog 64 #[.int .i64 k, .int .i32 b, .int .i32 c] w fun e w'=>e= .returned (.int .i32 (eP k b c))/\w=w':=by
 have HB:=G (fun v=>AH v);rcases hk with rfl|rfl|rfl|rfl|rfl|rfl|rfl;all_goals
  try (have h1: ¬c=0:=h0 (by decide);have h2:(c==0)=false:=beq_eq_false_iff_ne.2 h1)
  clear h0;go_enter func64,ntmps64;go_wp2_with (go_at_call 106;refine(HB.out _ _).mono ?_;rintro e w1 ⟨rfl,rfl⟩;clear HB);all_goals (go_ret;exact⟨by first|rfl|(simp_all[eP];done),rfl⟩)
end
end Go.Proofs.YtddomeddabfinaaGreatDoor
