/- Parts of the proof. -/
import Derived.Test.YtoedmpgicdekmaaGreatDoorCl00
import Derived.Deep.CutBlock
import Derived.Test.YtoedmpgicdekmaaGreatDoorCl23
set_option maxRecDepth 100000
set_option maxHeartbeats 8000000
set_option linter.unusedVariables false
set_option linter.unusedSimpArgs false
set_option linter.unusedSectionVars false
namespace Go.Proofs.YtoedmpgicdekmaaGreatDoor
open Go.Proofs.Tryz
section
open Go.RowKit
structure dl where
 op:Nat
 a:Int
 b:Int
 c:Int
 v:Int
def jt (n:Int) (u:Bool):Bool:=n==0||(u&&decide (0<n)&&decide (n<16))
def G_ (n:Nat) (c:Int):Bool:=if(iO n).2.2.2.2.2=true then decide (-128<=c)&&decide (c<=127)else jt c (iO n).2.2.2.1
def G4 (n:Nat) (v:Int):Bool:=v==0||((iO n).2.2.2.2.1&&decide (-32768<=v)&&decide (v<=32767))
def eZ (x:dl):Bool:=decide (1<=x.op)&&decide (x.op<=22)&&(jt x.a (iO x.op).2.1&&jt x.b (iO x.op).2.2.1&&G_ x.op x.c&&G4 x.op x.v)
def dl.val (x:dl):Value:= .agg #[.int .i64 x.op, .int .i64 x.a, .int .i64 x.b, .int .i64 x.c, .int .i64 x.v]
theorem mc (x:dl) (u:World) (F:FT u):Calls prog 134 #[x.val] u λe w'=>e= .returned (.bool (eZ x))/\au u w':=by
 obtain⟨k,a,b,c,v⟩:=x;unfold dl.val;have o:=G (show eZ ⟨k,a,b,c,v⟩=(decide (1<=k)&&decide (k<=22)&&(jt a (iO k).2.1&&jt b (iO k).2.2.1&&G_ k c&&G4 k v))from rfl);generalize ae:eZ ⟨k,a,b,c,v⟩=L at*;clear ae;have H:=G (aa u (.cells #[.int .i64 k, .int .i64 a, .int .i64 b, .int .i64 c, .int .i64 v] 159));by_cases A:1<=k
 rotate_left
 ·have A:(k:Int)<1:=Qa
  have d:=G (show L=false by rw[o.out];simp[show ¬1<=k by omega]);clear F o;go_enter func134,ntmps134;go_wp2_with fail;go_ret;exact⟨by rw[d.out];rfl,H.out⟩
 by_cases I:k<=22
 rotate_left
 ·have I:(22:Int)<k:=Qa
  have A: ¬(k:Int)<1:=Qa
  have d:=G (show L=false by rw[o.out];simp[show ¬k<=22 by omega]);clear F o;go_enter func134,ntmps134;go_wp2_with fail;go_ret;exact⟨by rw[d.out];rfl,H.out⟩
 have ar: ¬(k:Int)<1:=Qa
 have aq: ¬(22:Int)<k:=Qa
 have ap:k<23:=Qa
 have d:=G (show L=(jt a (iO k).2.1&&jt b (iO k).2.2.1&&G_ k c&&G4 k v) by rw[o.out];simp[A,I]);have V:=sC a (iO k).2.1;have R:=sC b (iO k).2.2.1;have M:=sC c (iO k).2.2.2.1;obtain⟨al,aj,ai,ah,ag,af⟩:=(F.ext H.out).row k Qa;unfold G_ G4 at d;generalize (iO k).1=ad at*;generalize (iO k).2.1=z at*;generalize (iO k).2.2.1=y at*;generalize (iO k).2.2.2.1=w at*;generalize (iO k).2.2.2.2.1=ac at*;generalize (iO k).2.2.2.2.2=K at*;have ab:=G (show ∀W,Calls prog 187 #[.int .i64 a, .bool z] W λe w'=>e= .returned (.bool (jt a z))/\W=w' from V);have Z:=G (show ∀W,Calls prog 187 #[.int .i64 b, .bool y] W λe w'=>e= .returned (.bool (jt b y))/\W=w' from R);have X:=G (show ∀W,Calls prog 187 #[.int .i64 c, .bool w] W λe w'=>e= .returned (.bool (jt c w))/\W=w' from M);generalize jt a z=ao at*;generalize jt b y=an at*;generalize jt c w=am at*;clear F o V R M;have av:=G (H.out.alloc' (.cells #[.string (ak ad), .bool z, .bool y, .bool w, .bool ac, .bool K] 234));go_enter func134,ntmps134
 go_upto_region 5 with(go_at_call 187;refine(X.out _).mono ?_;rintro e J ⟨rfl,rfl⟩;clear X)
 clear A I al aj ai ah ag af;by_cases hv: -32768<=v<;>by_cases hc: -128<=c<;>by_cases hd:c<=127<;>cases K
 all_goals try (exfalso;omega)
 all_goals (go_wp2_with (first|(go_at_call 187;refine(ab.out _).mono ?_;rintro e J ⟨rfl,rfl⟩;clear ab)|(go_at_call 187;refine(Z.out _).mono ?_;rintro e J ⟨rfl,rfl⟩;clear Z)))
 all_goals (go_ret;refine⟨?_,(aa u _).alloc' _⟩;rw[d.out];first|(simp_all;done)|(simp_all;omega))
structure Rg where
 r:Nat->Int
 pc:Int
def Rg.cs (g:Rg):Array Value:= #[.int .i32 (g.r 0), .int .i32 (g.r 1), .int .i32 (g.r 2), .int .i32 (g.r 3), .int .i32 (g.r 4), .int .i32 (g.r 5), .int .i32 (g.r 6), .int .i32 (g.r 7), .int .i32 (g.r 8), .int .i32 (g.r 9), .int .i32 (g.r 10), .int .i32 (g.r 11), .int .i32 (g.r 12), .int .i32 (g.r 13), .int .i32 (g.r 14), .int .i32 (g.r 15), .int .i64 g.pc]
theorem js (g:Rg): ∀(i:Nat),i<16->g.cs[i]? =some (.int .i32 (g.r i)):=by
 intro i a
 iterate 16 (rcases i with _|i;exact rfl)
 omega
def bR (g:Rg) (x:dl):Int×Int:=if x.op=14\/x.op=15 then(g.r x.b.toNat+x.c,4)else if x.op=16\/x.op=17 then(g.r x.b.toNat+x.c,1)else(0,0)
theorem gP (g:Rg) (x:dl) (d:World) (A: -2147483648<=g.r x.b.toNat/\g.r x.b.toNat<=2147483647) (y:0<=x.b/\x.b<16) (F: -200<=x.c/\x.c<=300):Calls prog 145 #[.agg g.cs,x.val] d λe w'=>e= .returned (.tuple #[.int .i64 (bR g x).1, .int .i64 (bR g x).2])/\au d w':=by
 obtain⟨k,o,b,c,v⟩:=x;obtain⟨b,rfl⟩:=aW y.1;obtain⟨Z,X⟩:=y;obtain⟨V,R⟩:=F;simp only[Int.ofNat_eq_natCast,bW]at*;obtain⟨M,K⟩:=A;unfold dl.val;have H:b<16:=Qa
 simp only;obtain⟨a,u⟩: ∃a:Int,(k:Int)=a:=⟨_,rfl⟩
 rw[u];have z:=G ((aa d (.cells g.cs 109)).alloc' (.cells #[.int .i64 a, .int .i64 o, .int .i64 b, .int .i64 c, .int .i64 v] 159));have ab:=(((aq d 109 g.cs).alloc (.cells #[.int .i64 a, .int .i64 o, .int .i64 b, .int .i64 c, .int .i64 v] 159)).cell b).trans (js g b H)
 have w:=G (show bR g ⟨k,o,b,c,v⟩=if a=14\/a=15 then(g.r b+c,4)else if a=16\/a=17 then(g.r b+c,1)else(0,0) by
  unfold bR;simp only[bW,<-u]
  simp only[show((k:Int)=14\/(k:Int)=15)=(k=14\/k=15) by simp only[eq_iff_iff];omega,show((k:Int)=16\/(k:Int)=17)=(k=16\/k=17) by simp only[eq_iff_iff];omega])
 generalize bR g ⟨k,o,b,c,v⟩=p at*;generalize g.r b=q at*;have J:IntKind.i64.wrap (q+c)=q+c:=Qc
 clear u;rcases(show a=14\/a=15\/a=16\/a=17\/(¬a=14/\ ¬a=15/\ ¬a=16/\ ¬a=17) by omega)with rfl|rfl|rfl|rfl|⟨h1,h2,h3,h4⟩
 rotate_right
 ·have af:(a==14)=false:=Qn.2 h1;have ae:(a==15)=false:=Qn.2 h2;have ad:(a==16)=false:=Qn.2 h3;have ac:(a==17)=false:=Qn.2 h4;have I:=G (show p=(0,0) by rw[w.out,if_neg Qa,if_neg Qa]);clear w;go_enter func145,ntmps145;go_wp2_with fail
  go_quiet (fail)
  go_wp2_with fail;exact bodyPost_ret (v:= .tuple #[.int .i64 0, .int .i64 0]) (by simp[results,results145,go_sem]) rfl ⟨by rw[I.out],z.out.drewN _⟩
 all_goals
  go_enter func145,ntmps145;go_wp2_with fail
  go_quiet (fail)
  go_wp2_with fail;exact bodyPost_ret (v:= .tuple #[.int .i64 p.1, .int .i64 p.2]) (by rw[w.out];simp[results,results145,go_sem]) rfl ⟨rfl,z.out.drewN _⟩
def lS:Nat->Int->Int->Int
 |4,b,c=>wrap32 (b+c)
 |5,b,c=>wrap32 (b-c)
 |6,b,c=>wrap32 (b*c)
 |7,b,c=>wrap32 (b.tdiv c)
 |8,b,c=>b.tmod c
 |9,b,c=>bits .and .i32 b c
 |10,b,c=>bits .or .i32 b c
 |11,b,c=>bits .xor .i32 b c
 |12,b,c=>if decide (b<c)=true then 1 else 0
 | _,b,c=>if decide (b=c)=true then 1 else 0
theorem EM (v:Bool) (a:World):Calls prog 197 #[.bool v] a λe w'=>e= .returned (.int .i32 (if v=true then 1 else 0))/\a=w':=by
 cases v;all_goals
  go_enter func197,ntmps197;go_wp2_with fail;go_ret;exact⟨rfl,rfl⟩
theorem zw (k:Nat) (b c:Int) (a:World) (u:k=4\/k=5\/k=6\/k=7\/k=8\/k=9\/k=10\/k=11\/k=12\/k=13) (d:k=7\/k=8->c≠0):Calls prog 147 #[.int .i64 k, .int .i32 b, .int .i32 c] a λe w'=>e= .returned (.int .i32 (lS k b c))/\a=w':=by
 have o:=G (λv=>EM v);rcases u with rfl|rfl|rfl|rfl|rfl|rfl|rfl|rfl|rfl|rfl;all_goals
  try (have w: ¬c=0:=d Qd;have z:(c==0)=false:=Qn.2 w)
  clear d;go_enter func147,ntmps147;go_wp2_with (go_at_call 197;refine(o.out _ _).mono ?_;rintro e y ⟨rfl,rfl⟩;clear o);all_goals (go_ret;exact⟨by first|rfl|(simp_all[lS];done),rfl⟩)
end
end Go.Proofs.YtoedmpgicdekmaaGreatDoor
