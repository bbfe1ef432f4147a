/-
  Parts of the proof: CpB CpC.
-/
import Derived.Test.YtoedmpgicdekmaaGreatDoorCq00
import Derived.Deep.CutBlock
import Derived.Test.YtoedmpgicdekmaaGreatDoorCq21
set_option maxRecDepth 100000
set_option maxHeartbeats 8000000
set_option linter.unusedVariables false
set_option linter.unusedSimpArgs false
set_option linter.unusedSectionVars false
namespace Go.Proofs.YtoedmpgicdekmaaGreatDoor
open Go.Proofs.Tryz
section
open Go.RowKit
structure cQ where
 op:Nat
 a:Int
 b:Int
 c:Int
 v:Int
def ij (n:Int) (u:Bool):Bool:=n==0||(u&&decide (0<n)&&decide (n<16))
def Ed (n:Nat) (c:Int):Bool:=if(gL n).2.2.2.2.2=true then decide (-128<=c)&&decide (c<=127)else ij c (gL n).2.2.2.1
def D8 (n:Nat) (v:Int):Bool:=v==0||((gL n).2.2.2.2.1&&decide (-32768<=v)&&decide (v<=32767))
def em (x:cQ):Bool:=decide (1<=x.op)&&decide (x.op<=22)&&(ij x.a (gL x.op).2.1&&ij x.b (gL x.op).2.2.1&&Ed x.op x.c&&D8 x.op x.v)
def cQ.val (x:cQ):Value:= .agg #[.int .i64 x.op, .int .i64 x.a, .int .i64 x.b, .int .i64 x.c, .int .i64 x.v]
theorem kF (x:cQ) (w:World) (h:FT w):Calls prog 134 #[x.val] w fun e w'=>e= .returned (.bool (em x))/\au w w':=by
 obtain⟨k,a,b,c,v⟩:=x;unfold cQ.val;have HL:=G (show em ⟨k,a,b,c,v⟩=(decide (1<=k)&&decide (k<=22)&&(ij a (gL k).2.1&&ij b (gL k).2.2.1&&Ed k c&&D8 k v))from rfl);generalize hl:em ⟨k,a,b,c,v⟩=L at*;clear hl;have HX:=G (aa w (.cells #[.int .i64 k, .int .i64 a, .int .i64 b, .int .i64 c, .int .i64 v] 159));by_cases h1:1<=k
 rotate_left
 ·have h1:(k:Int)<1:=by omega
  have HR:=G (show L=false by rw[HL.out];simp[show ¬1<=k by omega]);clear h HL;go_enter func134,ntmps134;go_wp2_with fail;go_ret;exact⟨by rw[HR.out];rfl,HX.out⟩
 by_cases h2:k<=22
 rotate_left
 ·have h2:(22:Int)<k:=by omega
  have h1: ¬(k:Int)<1:=by omega
  have HR:=G (show L=false by rw[HL.out];simp[show ¬k<=22 by omega]);clear h HL;go_enter func134,ntmps134;go_wp2_with fail;go_ret;exact⟨by rw[HR.out];rfl,HX.out⟩
 have hk1: ¬(k:Int)<1:=by omega
 have hk2: ¬(22:Int)<k:=by omega
 have hk23:k<23:=by omega
 have HR:=G (show L=(ij a (gL k).2.1&&ij b (gL k).2.2.1&&Ed k c&&D8 k v) by rw[HL.out];simp[h1,h2]);have hA:=qv a (gL k).2.1;have hB:=qv b (gL k).2.2.1;have hC:=qv c (gL k).2.2.2.1;obtain⟨f0,f1,f2,f3,f4,f5⟩:=(h.ext HX.out).row k (by omega);unfold Ed D8 at HR;generalize (gL k).1=n0 at*;generalize (gL k).2.1=n1 at*;generalize (gL k).2.2.1=n2 at*;generalize (gL k).2.2.2.1=n3 at*;generalize (gL k).2.2.2.2.1=n4 at*;generalize (gL k).2.2.2.2.2=n5 at*;have HA:=G (show ∀W,Calls prog 187 #[.int .i64 a, .bool n1] W fun e w'=>e= .returned (.bool (ij a n1))/\W=w' from hA);have HB:=G (show ∀W,Calls prog 187 #[.int .i64 b, .bool n2] W fun e w'=>e= .returned (.bool (ij b n2))/\W=w' from hB);have HC:=G (show ∀W,Calls prog 187 #[.int .i64 c, .bool n3] W fun e w'=>e= .returned (.bool (ij c n3))/\W=w' from hC);generalize ij a n1=ra at*;generalize ij b n2=rb at*;generalize ij c n3=rc at*;clear h HL hA hB hC;have HX1:=G (HX.out.alloc' (.cells #[.string (an n0), .bool n1, .bool n2, .bool n3, .bool n4, .bool n5] 234));go_enter func134,ntmps134
 go_upto_region 5 with(go_at_call 187;refine(HC.out _).mono ?_;rintro e w1 ⟨rfl,rfl⟩;clear HC)
 clear h1 h2 f0 f1 f2 f3 f4 f5;by_cases hv: -32768<=v<;>by_cases hc: -128<=c<;>by_cases hd:c<=127<;>cases n5
 all_goals try (exfalso;omega)
 all_goals (go_wp2_with (first|(go_at_call 187;refine(HA.out _).mono ?_;rintro e w1 ⟨rfl,rfl⟩;clear HA)|(go_at_call 187;refine(HB.out _).mono ?_;rintro e w1 ⟨rfl,rfl⟩;clear HB)))
 all_goals (go_ret;refine⟨?_,(aa w _).alloc' _⟩;rw[HR.out];first|(simp_all;done)|(simp_all;omega))
end
section
open Go.RowKit
structure Rg where
 r:Nat->Int
 pc:Int
def Rg.cs (g:Rg):Array Value:= #[.int .i32 (g.r 0), .int .i32 (g.r 1), .int .i32 (g.r 2), .int .i32 (g.r 3), .int .i32 (g.r 4), .int .i32 (g.r 5), .int .i32 (g.r 6), .int .i32 (g.r 7), .int .i32 (g.r 8), .int .i32 (g.r 9), .int .i32 (g.r 10), .int .i32 (g.r 11), .int .i32 (g.r 12), .int .i32 (g.r 13), .int .i32 (g.r 14), .int .i32 (g.r 15), .int .i64 g.pc]
theorem ii (g:Rg): ∀(i:Nat),i<16->g.cs[i]? =some (.int .i32 (g.r i)):=by
 intro i hi
 iterate 16 (rcases i with _|i;exact rfl)
 omega
def bL (g:Rg) (x:cQ):Int×Int:=if x.op=14\/x.op=15 then(g.r x.b.toNat+x.c,4)else if x.op=16\/x.op=17 then(g.r x.b.toNat+x.c,1)else(0,0)
theorem fY (g:Rg) (x:cQ) (w:World) (hr: -2147483648<=g.r x.b.toNat/\g.r x.b.toNat<=2147483647) (hb:0<=x.b/\x.b<16) (hc: -200<=x.c/\x.c<=300):Calls prog 145 #[.agg g.cs,x.val] w fun e w'=>e= .returned (.tuple #[.int .i64 (bL g x).1, .int .i64 (bL g x).2])/\au w w':=by
 obtain⟨k,a,b,c,v⟩:=x;obtain⟨b,rfl⟩:=aR hb.1;obtain⟨hb0,hb1⟩:=hb;obtain⟨hc0,hc1⟩:=hc;simp only[Int.ofNat_eq_natCast,bP]at*;obtain⟨hr0,hr1⟩:=hr;unfold cQ.val;have hbn:b<16:=by omega
 simp only;obtain⟨z,hz⟩: ∃z:Int,(k:Int)=z:=⟨_,rfl⟩
 rw[hz];have HX:=G ((aa w (.cells g.cs 109)).alloc' (.cells #[.int .i64 z, .int .i64 a, .int .i64 b, .int .i64 c, .int .i64 v] 159));have f0:=(((aw w 109 g.cs).alloc (.cells #[.int .i64 z, .int .i64 a, .int .i64 b, .int .i64 c, .int .i64 v] 159)).cell b).trans (ii g b hbn)
 have HP:=G (show bL g ⟨k,a,b,c,v⟩=if z=14\/z=15 then(g.r b+c,4)else if z=16\/z=17 then(g.r b+c,1)else(0,0) by
  unfold bL;simp only[bP,<-hz]
  simp only[show((k:Int)=14\/(k:Int)=15)=(k=14\/k=15) by simp only[eq_iff_iff];omega,show((k:Int)=16\/(k:Int)=17)=(k=16\/k=17) by simp only[eq_iff_iff];omega])
 generalize bL g ⟨k,a,b,c,v⟩=p at*;generalize g.r b=q at*;have hw:IntKind.i64.wrap (q+c)=q+c:=by simp[IntKind.wrap,IntKind.signed,IntKind.bits];omega
 clear hz;rcases(show z=14\/z=15\/z=16\/z=17\/(¬z=14/\ ¬z=15/\ ¬z=16/\ ¬z=17) by omega)with rfl|rfl|rfl|rfl|⟨h1,h2,h3,h4⟩
 rotate_right
 ·have e1:(z==14)=false:=beq_eq_false_iff_ne.2 h1;have e2:(z==15)=false:=beq_eq_false_iff_ne.2 h2;have e3:(z==16)=false:=beq_eq_false_iff_ne.2 h3;have e4:(z==17)=false:=beq_eq_false_iff_ne.2 h4;have HR:=G (show p=(0,0) by rw[HP.out,if_neg (by omega),if_neg (by omega)]);clear HP;go_enter func145,ntmps145;go_wp2_with fail
  go_quiet (fail)
  go_wp2_with fail;exact bodyPost_ret (v:= .tuple #[.int .i64 0, .int .i64 0]) (by simp[results,results145,go_sem]) rfl ⟨by rw[HR.out],HX.out.drewN _⟩
 all_goals
  go_enter func145,ntmps145;go_wp2_with fail
  go_quiet (fail)
  go_wp2_with fail;exact bodyPost_ret (v:= .tuple #[.int .i64 p.1, .int .i64 p.2]) (by rw[HP.out];simp[results,results145,go_sem]) rfl ⟨rfl,HX.out.drewN _⟩
def kq:Nat->Int->Int->Int
 |4,b,c=>wrap32 (b+c)
 |5,b,c=>wrap32 (b-c)
 |6,b,c=>wrap32 (b*c)
 |7,b,c=>wrap32 (b.tdiv c)
 |8,b,c=>b.tmod c
 |9,b,c=>bits .and .i32 b c
 |10,b,c=>bits .or .i32 b c
 |11,b,c=>bits .xor .i32 b c
 |12,b,c=>if decide (b<c)=true then 1 else 0
 | _,b,c=>if decide (b=c)=true then 1 else 0
theorem B9 (v:Bool) (w:World):Calls prog 197 #[.bool v] w fun e w'=>e= .returned (.int .i32 (if v=true then 1 else 0))/\w=w':=by
 cases v;all_goals
  go_enter func197,ntmps197;go_wp2_with fail;go_ret;exact⟨rfl,rfl⟩
theorem xp (k:Nat) (b c:Int) (w:World) (hk:k=4\/k=5\/k=6\/k=7\/k=8\/k=9\/k=10\/k=11\/k=12\/k=13) (h0:k=7\/k=8->c≠0):Calls prog 147 #[.int .i64 k, .int .i32 b, .int .i32 c] w fun e w'=>e= .returned (.int .i32 (kq k b c))/\w=w':=by
 have HB:=G (fun v=>B9 v);rcases hk with rfl|rfl|rfl|rfl|rfl|rfl|rfl|rfl|rfl|rfl;all_goals
  try (have h1: ¬c=0:=h0 (by decide);have h2:(c==0)=false:=beq_eq_false_iff_ne.2 h1)
  clear h0;go_enter func147,ntmps147;go_wp2_with (go_at_call 197;refine(HB.out _ _).mono ?_;rintro e w1 ⟨rfl,rfl⟩;clear HB);all_goals (go_ret;exact⟨by first|rfl|(simp_all[kq];done),rfl⟩)
end
end Go.Proofs.YtoedmpgicdekmaaGreatDoor
