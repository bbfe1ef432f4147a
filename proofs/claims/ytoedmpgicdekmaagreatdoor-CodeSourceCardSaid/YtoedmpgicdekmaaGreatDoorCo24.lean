/- Parts of the proof. -/
import Derived.Test.YtoedmpgicdekmaaGreatDoorCo23
set_option maxRecDepth 100000
set_option maxHeartbeats 8000000
set_option linter.all false
namespace Go.Proofs.YtoedmpgicdekmaaGreatDoor
open IntKind(i64)
open Go.Proofs.Tryz
section
open Go.RowKit
structure dq where
 op:Nat
 a:Int
 b:Int
 c:Int
 v:Int
def jM (n:Int) (u:Bool):Bool:=n==0||(u&&decide (0<n)&&decide (n<16))
def Hl (n:Nat) (c:Int):Bool:=if(jh n).2.2.2.2.2=true then decide (-128<=c)&&decide (c<=127)else jM c (jh n).2.2.2.1
def Hh (n:Nat) (v:Int):Bool:=v==0||((jh n).2.2.2.2.1&&decide (-32768<=v)&&decide (v<=32767))
def ft (x:dq):Bool:=decide (1<=x.op)&&decide (x.op<=22)&&(jM x.a (jh x.op).2.1&&jM x.b (jh x.op).2.2.1&&Hl x.op x.c&&Hh x.op x.v)
def dq.val (x:dq):Value:=.agg #[.int i64 x.op,.int i64 x.a,.int i64 x.b,.int i64 x.c,.int i64 x.v]
theorem mG (x:dq) (u:World) (F:FT u):Calls prog 134 #[x.val] u λe w'=>e=.returned (.bool (ft x))/\au u w':=by
 obtain⟨k,a,b,c,v⟩:=x;unfold dq.val;have o:=G (show ft ⟨k,a,b,c,v⟩=(decide (1<=k)&&decide (k<=22)&&(jM a (jh k).2.1&&jM b (jh k).2.2.1&&Hl k c&&Hh k v))from rfl);generalize al:ft ⟨k,a,b,c,v⟩=L at*;clear al;have R:=G (aa u (.cells #[.int i64 k,.int i64 a,.int i64 b,.int i64 c,.int i64 v] 159));by_cases A:1<=k
 rotate_left
 ·have A:(k:Int)<1:=J
  have d:=G (show L=false by rw[o.out];simp[show ¬1<=k by omega]);clear F o;go_enter func134,ntmps134;go_wp2_with fail;go_ret;exact⟨by rw[d.out];rfl,R.out⟩
 by_cases V:k<=22
 rotate_left
 ·have V:(22:Int)<k:=J
  have A: ¬(k:Int)<1:=J
  have d:=G (show L=false by rw[o.out];simp[show ¬k<=22 by omega]);clear F o;go_enter func134,ntmps134;go_wp2_with fail;go_ret;exact⟨by rw[d.out];rfl,R.out⟩
 have aA: ¬(k:Int)<1:=J
 have az: ¬(22:Int)<k:=J
 have ay:k<23:=J
 have d:=G (show L=(jM a (jh k).2.1&&jM b (jh k).2.2.1&&Hl k c&&Hh k v) by rw[o.out];simp[A,V]);have ae:=th a (jh k).2.1;have ad:=th b (jh k).2.2.1;have H:=th c (jh k).2.2.2.1;obtain⟨ar,aq,ap,ao,an,am⟩:=(F.ext R.out).row k J;unfold Hl Hh at d;generalize (jh k).1=aj at*;generalize (jh k).2.1=z at*;generalize (jh k).2.2.1=y at*;generalize (jh k).2.2.2.1=w at*;generalize (jh k).2.2.2.2.1=ai at*;generalize (jh k).2.2.2.2.2=I at*;have ah:=G (show ∀W,Calls prog 187 #[.int i64 a,.bool z] W λe w'=>e=.returned (.bool (jM a z))/\W=w' from ae);have ag:=G (show ∀W,Calls prog 187 #[.int i64 b,.bool y] W λe w'=>e=.returned (.bool (jM b y))/\W=w' from ad);have af:=G (show ∀W,Calls prog 187 #[.int i64 c,.bool w] W λe w'=>e=.returned (.bool (jM c w))/\W=w' from H);generalize jM a z=ax at*;generalize jM b y=aw at*;generalize jM c w=av at*;clear F o ae ad H;have aB:=G (R.out.alloc' (.cells #[.string (Z aj),.bool z,.bool y,.bool w,.bool ai,.bool I] 234));go_enter func134,ntmps134
 go_upto_region 5 with(go_at_call 187;refine(af.out _).mono ?_;rintro e X ⟨rfl,rfl⟩;clear af)
 clear A V ar aq ap ao an am;by_cases hv: -32768<=v<;>by_cases hc: -128<=c<;>by_cases hd:c<=127<;>cases I
 all_goals try (exfalso;omega)
 all_goals (go_wp2_with (first|(go_at_call 187;refine(ah.out _).mono ?_;rintro e X ⟨rfl,rfl⟩;clear ah)|(go_at_call 187;refine(ag.out _).mono ?_;rintro e X ⟨rfl,rfl⟩;clear ag)))
 all_goals (go_ret;refine⟨?_,(aa u _).alloc' _⟩;rw[d.out];first|(simp_all;done)|(simp_all;omega))
structure Rg where
 r:Nat->Int
 pc:Int
def Rg.cs (g:Rg):Array Value:= #[.int .i32 (g.r 0),.int .i32 (g.r 1),.int .i32 (g.r 2),.int .i32 (g.r 3),.int .i32 (g.r 4),.int .i32 (g.r 5),.int .i32 (g.r 6),.int .i32 (g.r 7),.int .i32 (g.r 8),.int .i32 (g.r 9),.int .i32 (g.r 10),.int .i32 (g.r 11),.int .i32 (g.r 12),.int .i32 (g.r 13),.int .i32 (g.r 14),.int .i32 (g.r 15),.int i64 g.pc]
theorem jL (g:Rg): ∀(i:Nat),i<16->g.cs[i]? =some (.int .i32 (g.r i)):=by
 intro i hi
 iterate 16 (rcases i with _|i;exact rfl)
 omega
def bT (g:Rg) (x:dq):Int×Int:=if x.op=14\/x.op=15 then(g.r x.b.toNat+x.c,4)else if x.op=16\/x.op=17 then(g.r x.b.toNat+x.c,1)else(0,0)
theorem ij (g:Rg) (x:dq) (d:World) (A: -2147483648<=g.r x.b.toNat/\g.r x.b.toNat<=2147483647) (y:0<=x.b/\x.b<16) (F: -200<=x.c/\x.c<=300):Calls prog 145 #[.agg g.cs,x.val] d λe w'=>e=.returned (.tuple #[.int i64 (bT g x).1,.int i64 (bT g x).2])/\au d w':=by
 obtain⟨k,o,b,c,v⟩:=x;obtain⟨b,rfl⟩:=a_ y.1;obtain⟨ag,af⟩:=y;obtain⟨ae,ad⟩:=F;simp only[Int.ofNat_eq_natCast,bY]at*;obtain⟨H,I⟩:=A;unfold dq.val;have R:b<16:=J
 simp only;obtain⟨a,u⟩: ∃a:Int,(k:Int)=a:=⟨_,rfl⟩
 rw[u];have z:=G ((aa d (.cells g.cs 109)).alloc' (.cells #[.int i64 a,.int i64 o,.int i64 b,.int i64 c,.int i64 v] 159));have ah:=(((aq d 109 g.cs).alloc (.cells #[.int i64 a,.int i64 o,.int i64 b,.int i64 c,.int i64 v] 159)).cell b).trans (jL g b R)
 have w:=G (show bT g ⟨k,o,b,c,v⟩=if a=14\/a=15 then(g.r b+c,4)else if a=16\/a=17 then(g.r b+c,1)else(0,0) by
  unfold bT;simp only[bY,<-u]
  simp only[show((k:Int)=14\/(k:Int)=15)=(k=14\/k=15) by simp only[eq_iff_iff];omega,show((k:Int)=16\/(k:Int)=17)=(k=16\/k=17) by simp only[eq_iff_iff];omega])
 generalize bT g ⟨k,o,b,c,v⟩=p at*;generalize g.r b=q at*;have X:IntKind.i64.wrap (q+c)=q+c:=Qc
 clear u;rcases(show a=14\/a=15\/a=16\/a=17\/(¬a=14/\ ¬a=15/\ ¬a=16/\ ¬a=17) by omega)with rfl|rfl|rfl|rfl|⟨h1,h2,h3,h4⟩
 rotate_right
 ·have al:(a==14)=false:=Qn.2 h1;have Z:(a==15)=false:=Qn.2 h2;have aj:(a==16)=false:=Qn.2 h3;have ai:(a==17)=false:=Qn.2 h4;have V:=G (show p=(0,0) by rw[w.out,if_neg J,if_neg J]);clear w;go_enter func145,ntmps145;go_wp2_with fail
  go_quiet (fail)
  go_wp2_with fail;exact bodyPost_ret (v:=.tuple #[.int i64 0,.int i64 0]) (by simp[results,results145,go_sem]) rfl ⟨by rw[V.out],z.out.drewN _⟩
 all_goals
  go_enter func145,ntmps145;go_wp2_with fail
  go_quiet (fail)
  go_wp2_with fail;exact bodyPost_ret (v:=.tuple #[.int i64 p.1,.int i64 p.2]) (by rw[w.out];simp[results,results145,go_sem]) rfl ⟨rfl,z.out.drewN _⟩
def mi:Nat->Int->Int->Int
 |4,b,c=>wrap32 (b+c)
 |5,b,c=>wrap32 (b-c)
 |6,b,c=>wrap32 (b*c)
 |7,b,c=>wrap32 (b.tdiv c)
 |8,b,c=>b.tmod c
 |9,b,c=>bits .and .i32 b c
 |10,b,c=>bits .or .i32 b c
 |11,b,c=>bits .xor .i32 b c
 |12,b,c=>if decide (b<c)=true then 1 else 0
 | _,b,c=>if decide (b=c)=true then 1 else 0
theorem Fj (v:Bool) (a:World):Calls prog 197 #[.bool v] a λe w'=>e=.returned (.int .i32 (if v=true then 1 else 0))/\a=w':=by
 cases v;all_goals
  go_enter func197,ntmps197;go_wp2_with fail;go_ret;exact⟨rfl,rfl⟩
theorem Ak (k:Nat) (b c:Int) (a:World) (u:k=4\/k=5\/k=6\/k=7\/k=8\/k=9\/k=10\/k=11\/k=12\/k=13) (d:k=7\/k=8->c≠0):Calls prog 147 #[.int i64 k,.int .i32 b,.int .i32 c] a λe w'=>e=.returned (.int .i32 (mi k b c))/\a=w':=by
 have o:=G (λv=>Fj v);rcases u with rfl|rfl|rfl|rfl|rfl|rfl|rfl|rfl|rfl|rfl;all_goals
  try (have w: ¬c=0:=d Qd;have z:(c==0)=false:=Qn.2 w)
  clear d;go_enter func147,ntmps147;go_wp2_with (go_at_call 197;refine(o.out _ _).mono ?_;rintro e y ⟨rfl,rfl⟩;clear o);all_goals (go_ret;exact⟨by first|rfl|(simp_all[mi];done),rfl⟩)
end
end Go.Proofs.YtoedmpgicdekmaaGreatDoor
