/- Parts of the proof. -/
import Derived.Test.YtoedmpgicdekmaaGreatDoorCl00
import Derived.Lib.AppendIntMem
import Derived.Test.YtoedmpgicdekmaaGreatDoorCl10
import Derived.Test.YtoedmpgicdekmaaGreatDoorCl11
import Derived.Test.YtoedmpgicdekmaaGreatDoorCl12
set_option maxRecDepth 100000
set_option maxHeartbeats 8000000
set_option linter.unusedVariables false
set_option linter.unusedSimpArgs false
set_option linter.unusedSectionVars false
namespace Go.Proofs.YtoedmpgicdekmaaGreatDoor
open Go.Proofs.Tryz
section
open Go.RowKit
def eN (sep:List UInt8):List (List UInt8)->List UInt8
 | []=>[]
 |x::r=>x++r.flatMap (λy=>sep++y)
theorem wE (a:List UInt8) (l:List (List UInt8)) (x:List UInt8):eN a (l++[x])=eN a l++((if l=[]then[]else a)++x):=by
 cases l with
 |nil=>simp[eN]
 |cons y r=>simp[eN]
def oZ (b:Bool) (s:List UInt8):List UInt8:=if b then 40::(s++[41])else s
def vZ (k:Int) (op nm tx:List UInt8) (v:Int) (ps:List Int) (ss:List (List UInt8)):List UInt8:=
 if k=1 then lR v.toNat
 else if k=2 then mK tx
 else if k=3 then nm
 else if k=4 then nm++[91]++ss.headD []++[93]
 else if k=5 then nm++[40]++eN [44,32] ss++[41]
 else if k=6 then op++oZ (decide (ps.headD 0<7)) (ss.headD [])
 else if k=7 then oZ (decide (ps.headD 0<my op)) (ss.headD [])++([32]++op++[32])++oZ (decide (ps.tail.headD 0<=my op)) (ss.tail.headD [])
 else[]
mutual
def c_:Ex->List UInt8| .mk k op nm tx v a=>vZ k op nm tx v (a.map Ex.prec) (fM a)
def fM:List Ex->List (List UInt8)| []=>[]|x::r=>c_ x::fM r
end
theorem nf: ∀l,fM l=l.map c_
 | []=>rfl
 |x::r=>by rw[fM,nf r];rfl
theorem BI: ∀n,Lib.decDigits n=lR n:=λn=>by
 induction n using Nat.strongRecOn with
 | _ n ih=>
  rw[Lib.decDigits,lR];split
  ·rfl
  ·rw[ih (n/10) Qa]
theorem wa (l:List UInt8):(mK l).length<=2*l.length+2:=by
 have:=(jd l).2;simp only[mK,ag,ac,ai];omega
theorem uO {v:Int} (a:v<=2147483647):(lR v.toNat).length<=10:=pk 9 v.toNat Qa
theorem pM (b:Bool) (s:List UInt8):(oZ b s).length<=s.length+2:=by
 cases b<;>simp[oZ]
theorem rK (a:List UInt8): ∀l:List (List UInt8),(eN a l).length<=(l.map λs=>s.length+a.length).sum
 | []=>by simp[eN]
 |x::r=>by
  have:(r.flatMap λd=>a++d).length=(r.map λs=>s.length+a.length).sum:=by
   rw[i6]
   congr 1
   apply List.map_congr_left;intro d _;simp;omega
  simp only[eN,ac,b7,fJ,this];omega
theorem ft {P:Nat->Prop} {o b c:World} (a:dE P o b) (k:dE P b c):dE P o c:=⟨ax a.1 k.1,λx h d=>(k.2 x h (aA d a.1)).trans (a.2 x h d)⟩
def ea (w:World) (b:Nat):Prop:=Lib.TabIs prog w "internal/strconv.uint64pow10" .u64 Lib.pow10Tab/\3<b
theorem ea.fb {h w':World} {b:Nat} (d:ea h b) (w:FB b h w'):ea w' b:=by
 refine⟨?_,d.2⟩;have a:=d.1;have o:prog.globalNamed "internal/strconv.uint64pow10" =some 3:=Qb
 have u:=w.below.block _ d.2;unfold Lib.TabIs World.var? at a⊢;rw[o]at a⊢;simp only[fj]at a⊢;rw[u];exact a
theorem uB (n:Int) (u:0<=n) (o:n<=9223372036854775807) (a:World) (b:Nat) (h:ea a b):Calls prog 119 #[.int .i64 n] a λe w'=>e= .returned (.string (ak (lR n.toNat)))/\au a w':=by
 refine(Tryz.strconv_Itoa n Qa o a h.1).mono ?_;rintro e w' ⟨rfl,k,d,rfl⟩;have:Lib.itoa n=lR n.toNat:=by unfold Lib.itoa;rw[if_neg Qa,BI]
 rw[this];exact⟨rfl,Lib.below_grow _ a (ah _) k d⟩
structure PC (b px:Nat) (w0:World) (P:Nat->Prop) (t:TypeId) (cs:Array Value) (v:Value) (xs:List Ex) (l:List UInt8) (W:World):Prop where
 box:aM W px t cs
 bu:Bu W b l
 rd:dL W P v xs
 fb:FB b w0 W
 tab:ea W b
 ne:px≠b
 tt:t≠5
 hP: ∀k,P k->k<b
section
variable {b px:Nat} {w0 W W':World} {P:Nat->Prop} {t:TypeId} {cs:Array Value} {v:Value} {xs:List Ex} {l l':List UInt8}
theorem PC.wr (a:PC b px w0 P t cs v xs l W) (o:Bu W' b l') (d:FB b W W'):PC b px w0 P t cs v xs l' W':=
 ⟨d.keep _ _ _ a.ne a.tt a.box,o,a.rd.keep (d.keepP a.hP) (λ_ h _=>h),a.fb.trans d,a.tab.fb d,a.ne,a.tt,a.hP⟩
theorem PC.ex (a:PC b px w0 P t cs v xs l W) (d:au W W'):PC b px w0 P t cs v xs l W':=a.wr (a.bu.ext d) (aV d (aH a.bu.lt))
end
theorem nH {b:Nat} {d w':World} (a:FB b d.drew w'):FB b d w':=⟨⟨a.below.os,a.below.tape,a.below.output,a.below.size,a.below.block⟩,a.keep⟩
section
variable {P:Program} {ops:Array Oper} {Q:Exit->Act->World->Prop}
theorem ja {id:Nat} {a:Act} {o:World} (b m f:Nat) (l:List zH) (x:Nat) (H:P.follows .mixedOrders=true) (G:Hx ops m a.tmps.size=true) (I:b<=o.heap.size)
  (F:lE au l) (A:p6 x (λa c=>b<=a.heap.size->FB b a c) l)
  (h:fx P Q ops f (fS l) (some x) (λ_=>false) au (λa c=>b<=a.heap.size->FB b a c) o.drew (λa y=> ∀w',FB b o w'->(∀p∈y,p.2 w')->wpList P ops Q (ops.toList.drop m) a w') (ops.toList.take m) 0 a []):(Code.region id ops true).wp P Q a o:=by
 refine jo m f (fS l) (some x) au (λa c=>b<=a.heap.size->FB b a c) H G aG (λa c J u w ha=>(u ha).trans (w (ax ha (u ha).below.size))) (λa c h ha=>aV h ha) (λ_ _ _=>r7) F.out A.out ?_;refine fx.fin (λa y h w' u w=>h w' ?_ w) _ _ _ _ h;have d:=u I;exact⟨⟨d.below.os,d.below.tape,d.below.output,d.below.size,d.below.block⟩,d.keep⟩
end
def pu (x:Ex):Prop:= ∀(P:Nat->Prop) (w:World) (A:Option Addr) (n c b:Nat) (l:List UInt8),dL w P (.slice A n c) x.args->(∀k,P k->k<b)->ea w b->Bu w b l->l.length+(c_ x).length<=1000000000->
 Calls prog 241 #[.pointer (some ⟨b,0,none⟩), .agg #[.int .i64 x.k, .string (ak x.op), .string (ak x.nm), .string (ak x.tx), .int .i64 x.v, .slice A n c]] w λe w'=>e= .returned (.tuple #[])/\Bu w' b (l++c_ x)/\FB b w w'
theorem sI (x:Ex) (M:pu x) (H:Bool) (P:Nat->Prop) (a:World) (w:Option Addr) (n c b:Nat) (l:List UInt8) (X:dL a P (.slice w n c) x.args) (J: ∀k,P k->k<b) (V:ea a b) (F:Bu a b l) (I:l.length+(oZ H (c_ x)).length<=1000000000):
  Calls prog 256 #[.pointer (some ⟨b,0,none⟩), .agg #[.int .i64 x.k, .string (ak x.op), .string (ak x.nm), .string (ak x.tx), .int .i64 x.v, .slice w n c], .bool H] a λe w'=>e= .returned (.tuple #[])/\Bu w' b (l++oZ H (c_ x))/\FB b a w':=by
 have K:=G M;clear M;unfold pu at K;generalize c_ x=S at*;generalize ad:x.args=xs at*;generalize x.k=k at*;generalize x.op=op at*;generalize x.nm=nm at*;generalize x.tx=tx at*;generalize x.v=v at*;have u:=G (show PC b a.heap.size a P 206 #[.int .i64 k, .string (ak op), .string (ak nm), .string (ak tx), .int .i64 v, .slice w n c] (.slice w n c) xs l _ from⟨aq a 206 #[.int .i64 k, .string (ak op), .string (ak nm), .string (ak tx), .int .i64 v, .slice w n c],F.ext (aa a _),X.keep (.of_ext (aa a _)) (λ_ ab _=>ab),aV (aa a _) (aH F.lt),V.fb (aV (aa a _) (aH F.lt)),bU F.lt,by decide,J⟩);have R:=u.out.box.cell;clear F X V
 cases H with
 |true=>
  have I:l.length+(S.length+2)<=1000000000:=by simpa[oZ]using I
  go_enter func256,ntmps256;go_wp2_with (first|(go_at_call 118;refine(cY b l [40] _ u.out.bu (by simp only[ag,ai];omega)).mono ?_;rintro e u1 ⟨rfl,o,d⟩;have A:=G (u.out.wr o d);clear o d u;clear R;have R:=A.out.box.cell)|(go_at_call 241;refine(K.out P _ w n c b (l++[40]) A.out.rd J A.out.tab A.out.bu (by simp only[ac,ag,ai];omega)).mono ?_;rintro e u2 ⟨rfl,o,d⟩;have y:=G (A.out.wr o d);clear o d A)|(go_at_call 118;refine(cY b (l++[40]++S) [41] _ y.out.bu (by simp only[ac,ag,ai];omega)).mono ?_;rintro e u3 ⟨rfl,o,d⟩;have Z:=G (y.out.wr o d);clear o d y))
  go_end0
  exact⟨rfl,by have:=Z.out.bu;simpa[oZ,aL]using this,Z.out.fb⟩
 |false=>
  have I:l.length+S.length<=1000000000:=I;go_enter func256,ntmps256;go_wp2_with (go_at_call 241;refine(K.out P _ w n c b l u.out.rd J u.out.tab u.out.bu Qa).mono ?_;rintro e u2 ⟨rfl,o,d⟩;have y:=G (u.out.wr o d);clear o d u)
  go_end0
  exact⟨rfl,y.out.bu,y.out.fb⟩
theorem Ji (op nm tx:List UInt8) (v:Int) (xs:List Ex) (ai:0<=v) (F:v<=2147483647) (P:Nat->Prop) (a:World) (w:Option Addr) (n c b:Nat) (l:List UInt8) (M:dL a P (.slice w n c) xs) (af: ∀k,P k->k<b) (J:ea a b) (u:Bu a b l) (S:List UInt8) (K:c_ (.mk 1 op nm tx v xs)=S) (ar:l.length+S.length<=1000000000):
  Calls prog 241 #[.pointer (some ⟨b,0,none⟩), .agg #[.int .i64 1, .string (ak op), .string (ak nm), .string (ak tx), .int .i64 v, .slice w n c]] a λe w'=>e= .returned (.tuple #[])/\Bu w' b (l++S)/\FB b a w':=by
 have V:=G (show lR v.toNat=S from by rw[<-K];rfl);have ap:(lR v.toNat).length=S.length:=by rw[V.out]
 clear K;have o:=G (show PC b a.heap.size a P 206 #[.int .i64 1, .string (ak op), .string (ak nm), .string (ak tx), .int .i64 v, .slice w n c] (.slice w n c) xs l _ from⟨aq a 206 #[.int .i64 1, .string (ak op), .string (ak nm), .string (ak tx), .int .i64 v, .slice w n c],u.ext (aa a _),M.keep (.of_ext (aa a _)) (λ_ ac _=>ac),aV (aa a _) (aH u.lt),J.fb (aV (aa a _) (aH u.lt)),bU u.lt,by decide,af⟩);have I:=o.out.box.cell;clear u M J;have am:=G (λa aj=>uB v ai Qa a b aj);generalize lR v.toNat=D at*;go_enter func241,ntmps241;go_wp2_with fail;refine aB 6 3 [(5,λx=>x= .string (ak D),λ_ _=>True)] mixed Qb ⟨λ_ _ _ _ _=>trivial,trivial⟩ ?_;repeat (refine sx ?_ (λab d=> ?_) ?_;rotate_left;(focus have al:=(o.out.ex d.un).box.cell;clear d;go_simp<;>with_reducible rfl);simp only[bA,bx,bw,br,bo])
 refine so (λZ d A au ag=> ?_) ?_
 ·have ad:=(o.out.ex d.un).tab;clear A d;go_simp;refine(am.out Z ad).mono ?_;rintro e ao ⟨rfl,ah⟩;exact ag _ _ ah rfl trivial
 rintro _ rfl;simp only[bA,bx,bw,br,bo];repeat (refine sx ?_ (λab d=> ?_) ?_;rotate_left;(focus have al:=(o.out.ex d.un).box.cell;clear d;go_simp<;>with_reducible rfl);simp only[bA,bx,bw,br,bo])
 intro an H A;clear A;simp only[ae,aw];have y:=G (o.out.ex H.un);clear H I o;have I:=y.out.box.cell;go_wp2_with ((go_at_call 118;refine(cY b l D _ y.out.bu Qa).mono ?_;rintro e u2 ⟨rfl,F,R⟩;have X:=G (y.out.wr F R);clear F R y))
 go_end0
 exact⟨rfl,by rw[<-V.out];have:=X.out.bu;exact this,X.out.fb⟩
theorem Jh (op nm tx:List UInt8) (v:Int) (xs:List Ex) (ap:tx.length<=128) (P:Nat->Prop) (a:World) (w:Option Addr) (n c b:Nat) (l:List UInt8) (K:dL a P (.slice w n c) xs) (ad: ∀k,P k->k<b) (I:ea a b) (u:Bu a b l) (S:List UInt8) (J:c_ (.mk 2 op nm tx v xs)=S) (an:l.length+S.length<=1000000000):
  Calls prog 241 #[.pointer (some ⟨b,0,none⟩), .agg #[.int .i64 2, .string (ak op), .string (ak nm), .string (ak tx), .int .i64 v, .slice w n c]] a λe w'=>e= .returned (.tuple #[])/\Bu w' b (l++S)/\FB b a w':=by
 have V:=G (show mK tx=S from by rw[<-J];rfl);have am:(mK tx).length=S.length:=by rw[V.out]
 clear J;have o:=G (show PC b a.heap.size a P 206 #[.int .i64 2, .string (ak op), .string (ak nm), .string (ak tx), .int .i64 v, .slice w n c] (.slice w n c) xs l _ from⟨aq a 206 #[.int .i64 2, .string (ak op), .string (ak nm), .string (ak tx), .int .i64 v, .slice w n c],u.ext (aa a _),K.keep (.of_ext (aa a _)) (λ_ ac _=>ac),aV (aa a _) (aH u.lt),I.fb (aV (aa a _) (aH u.lt)),bU u.lt,by decide,ad⟩);have H:=o.out.box.cell;clear u K I;have ai:=G (λa=>yy tx Qa a);generalize mK tx=D at*;go_enter func241,ntmps241;go_wp2_with fail;refine aB 6 3 [(5,λx=>x= .string (ak D),λ_ _=>True)] mixed Qb ⟨λ_ _ _ _ _=>trivial,trivial⟩ ?_;repeat (refine sx ?_ (λab d=> ?_) ?_;rotate_left;(focus have ah:=(o.out.ex d.un).box.cell;clear d;go_simp<;>with_reducible rfl);simp only[bA,bx,bw,br,bo])
 refine so (λZ d A ar af=> ?_) ?_
 ·have ao:=(o.out.ex d.un).tab;clear A d;go_simp;refine(ai.out Z).mono ?_;rintro e al ⟨rfl,ag⟩;exact af _ _ ag rfl trivial
 rintro _ rfl;simp only[bA,bx,bw,br,bo];repeat (refine sx ?_ (λab d=> ?_) ?_;rotate_left;(focus have ah:=(o.out.ex d.un).box.cell;clear d;go_simp<;>with_reducible rfl);simp only[bA,bx,bw,br,bo])
 intro aj F A;clear A;simp only[ae,aw];have y:=G (o.out.ex F.un);clear F H o;have H:=y.out.box.cell;go_wp2_with ((go_at_call 118;refine(cY b l D _ y.out.bu Qa).mono ?_;rintro e u2 ⟨rfl,R,M⟩;have X:=G (y.out.wr R M);clear R M y))
 go_end0
 exact⟨rfl,by rw[<-V.out];have:=X.out.bu;exact this,X.out.fb⟩
theorem Jg (op nm tx:List UInt8) (v:Int) (xs:List Ex) (P:Nat->Prop) (a:World) (o:Option Addr) (n c b:Nat) (l:List UInt8) (J:dL a P (.slice o n c) xs) (ab: ∀k,P k->k<b) (H:ea a b) (d:Bu a b l) (S:List UInt8) (I:c_ (.mk 3 op nm tx v xs)=S) (ag:l.length+S.length<=1000000000):
  Calls prog 241 #[.pointer (some ⟨b,0,none⟩), .agg #[.int .i64 3, .string (ak op), .string (ak nm), .string (ak tx), .int .i64 v, .slice o n c]] a λe w'=>e= .returned (.tuple #[])/\Bu w' b (l++S)/\FB b a w':=by
 have R:=G (show nm=S from by rw[<-I];rfl);have af:nm.length=S.length:=by rw[R.out]
 clear I;have w:=G (show PC b a.heap.size a P 206 #[.int .i64 3, .string (ak op), .string (ak nm), .string (ak tx), .int .i64 v, .slice o n c] (.slice o n c) xs l _ from⟨aq a 206 #[.int .i64 3, .string (ak op), .string (ak nm), .string (ak tx), .int .i64 v, .slice o n c],d.ext (aa a _),J.keep (.of_ext (aa a _)) (λ_ Z _=>Z),aV (aa a _) (aH d.lt),H.fb (aV (aa a _) (aH d.lt)),bU d.lt,by decide,ab⟩);have A:=w.out.box.cell;clear d J H;go_enter func241,ntmps241;go_wp2_with fail;refine aB 5 3 [] mixed Qb trivial ?_;repeat (refine sx ?_ (λad F=> ?_) ?_;rotate_left;(focus have ah:=(w.out.ex F.un).box.cell;clear F;go_simp<;>with_reducible rfl);simp only[bA,bx,bw,br,bo])
 intro ac y X;clear X;simp only[ae,aw];have u:=G (w.out.ex y.un);clear y A w;have A:=u.out.box.cell;go_wp2_with ((go_at_call 118;refine(cY b l nm _ u.out.bu Qa).mono ?_;rintro e u2 ⟨rfl,M,K⟩;have V:=G (u.out.wr M K);clear M K u))
 go_end0
 exact⟨rfl,by rw[<-R.out];have:=V.out.bu;exact this,V.out.fb⟩
theorem Jf (op nm tx:List UInt8) (v:Int) (y:Ex) (ar:pu y) (P:Nat->Prop) (a:World) (K:Option Addr) (n c b:Nat) (l:List UInt8) (V:dL a P (.slice K n c) [y]) (o: ∀k,P k->k<b) (ax:ea a b) (J:Bu a b l) (S:List UInt8) (ay:c_ (.mk 4 op nm tx v [y])=S) (a4:l.length+S.length<=1000000000):
  Calls prog 241 #[.pointer (some ⟨b,0,none⟩), .agg #[.int .i64 4, .string (ak op), .string (ak nm), .string (ak tx), .int .i64 v, .slice K n c]] a λe w'=>e= .returned (.tuple #[])/\Bu w' b (l++S)/\FB b a w':=by
 have au:=V.len;have az:=G ar;unfold pu at az;have aA:=G (show nm++[91]++c_ y++[93]=S from by rw[<-ay];rfl);have a3:nm.length+1+(c_ y).length+1=S.length:=by rw[<-aA.out];simp only[ac,ag,ai]
 clear ay ar;simp only[ag,ai]at au;obtain rfl:n=1:=au;obtain⟨b0,A,a0,aG,F,H,al,aj,ah,af,ad,ab,R⟩:=V.at_ 0 Qe;simp only[aF,aP,aY,bm,cP]at al aj ah af ad ab R;obtain⟨aS,aO,rfl,_⟩:=R.form;have I:=G (aC al (aC aj (aC ah (aC af (aC ad ab)))));have aR:=G R;clear al aj ah af ad ab R;have Z:=G (show PC b a.heap.size a P 206 #[.int .i64 4, .string (ak op), .string (ak nm), .string (ak tx), .int .i64 v, .slice K 1 c] (.slice K 1 c) [y] l _ from⟨aq a 206 #[.int .i64 4, .string (ak op), .string (ak nm), .string (ak tx), .int .i64 v, .slice K 1 c],J.ext (aa a _),V.keep (.of_ext (aa a _)) (λ_ am _=>am),aV (aa a _) (aH J.lt),ax.fb (aV (aa a _) (aH J.lt)),bU J.lt,by decide,o⟩);have M:=Z.out.box.cell;clear J V ax;obtain⟨c1,an⟩: ∃c,Hid (nm++[91]=c):=⟨_,G rfl⟩
 have aW:c1.length=nm.length+1:=by rw[<-an.out,ac];rfl
 have aX:ak nm++(⟨#[91]⟩:ByteArray)=ak c1:=by rw[<-an.out];exact eq _ _
 have a2: ¬9223372036854775807<nm.length+1:=Qa
 have a5: ¬9223372036854775807<1+nm.length:=Qa
 have aZ:(ak nm).size=nm.length:=a7 _;have a1:((⟨#[91]⟩:ByteArray)).size=1:=rfl;subst aG;generalize c_ y=aQ at*;go_enter func241,ntmps241;go_wp2_with fail;refine aB 6 3 [] mixed Qb trivial ?_;repeat (refine sx ?_ (λaU av=> ?_) ?_;rotate_left;(focus have a6:=(Z.out.ex av.un).box.cell;clear av;go_simp<;>with_reducible rfl);simp only[bA,bx,bw,br,bo])
 intro aT ap aE;clear aE;simp only[ae,aw];have X:=G (Z.out.ex ap.un);clear ap M Z;have M:=X.out.box.cell;go_wp2_with (first|(go_at_call 118;refine(cY b l c1 _ X.out.bu Qa).mono ?_;rintro e u2 ⟨rfl,w,u⟩;have d:=G (X.out.wr w u);clear w u X;clear M;have M:=d.out.box.cell;have e0:=(d.out.fb.keepP o).cell (A) H F|>.trans I.out.1;have aN:=(d.out.fb.keepP o).cell (A+1) H F|>.trans I.out.2.1;have aM:=(d.out.fb.keepP o).cell (A+2) H F|>.trans I.out.2.2.1;have aK:=(d.out.fb.keepP o).cell (A+3) H F|>.trans I.out.2.2.2.1;have aJ:=(d.out.fb.keepP o).cell (A+4) H F|>.trans I.out.2.2.2.2.1;have aI:=(d.out.fb.keepP o).cell (A+5) H F|>.trans I.out.2.2.2.2.2)|(go_at_call 241;refine(az.out P _ aS _ aO b (l++c1) (aR.out.keep (d.out.fb.keepP o) (λ_ am _=>am)) o d.out.tab d.out.bu (by simp only[ac];omega)).mono ?_;rintro e u3 ⟨rfl,w,u⟩;have ao:=G (d.out.wr w u);clear w u d;clear e0 aN aM aK aJ aI)|(go_at_call 118;refine(cY b (l++c1++aQ) [93] _ ao.out.bu (by simp only[ac,ag,ai];omega)).mono ?_;rintro e u4 ⟨rfl,w,u⟩;have aD:=G (ao.out.wr w u);clear w u ao))
 go_end0
 exact⟨rfl,by rw[<-aA.out];have:=aD.out.bu;rw[<-an.out]at this;simpa[aL]using this,aD.out.fb⟩
theorem Je (op nm tx:List UInt8) (v:Int) (xs:List Ex) (av: ∀d,d∈xs->pu d) (bE:xs.length<=4) (P:Nat->Prop) (u:World) (I:Option Addr) (n c b:Nat) (l:List UInt8) (an:dL u P (.slice I n c) xs) (ah: ∀k,P k->k<b) (aE:ea u b) (R:Bu u b l) (S:List UInt8) (aF:c_ (.mk 5 op nm tx v xs)=S) (bp:l.length+S.length<=1000000000):
  Calls prog 241 #[.pointer (some ⟨b,0,none⟩), .agg #[.int .i64 5, .string (ak op), .string (ak nm), .string (ak tx), .int .i64 v, .slice I n c]] u λe w'=>e= .returned (.tuple #[])/\Bu w' b (l++S)/\FB b u w':=by
 have az:=an.len;have a6:=G av;have aJ:=G (show nm++[40]++eN [44,32] (fM xs)++[41]=S from by rw[<-aF];rfl);have bn:nm.length+1+(eN [44,32] (fM xs)).length+1=S.length:=by rw[<-aJ.out];simp only[ac,ag,ai]
 have aN:=G az;have bk:(n:Int)<=4:=Qa
 clear aF av az;have aj:=G (show PC b u.heap.size u P 206 #[.int .i64 5, .string (ak op), .string (ak nm), .string (ak tx), .int .i64 v, .slice I n c] (.slice I n c) xs l _ from⟨aq u 206 #[.int .i64 5, .string (ak op), .string (ak nm), .string (ak tx), .int .i64 v, .slice I n c],R.ext (aa u _),an.keep (.of_ext (aa u _)) (λ_ K _=>K),aV (aa u _) (aH R.lt),aE.fb (aV (aa u _) (aH R.lt)),bU R.lt,by decide,ah⟩);have J:=aj.out.box.cell;clear R an aE;obtain⟨c1,ao⟩: ∃c,Hid (nm++[40]=c):=⟨_,G rfl⟩
 have be:c1.length=nm.length+1:=by rw[<-ao.out,ac];rfl
 have bh:ak nm++(⟨#[40]⟩:ByteArray)=ak c1:=by rw[<-ao.out];exact eq _ _
 have bl: ¬9223372036854775807<nm.length+1:=Qa
 have bq: ¬9223372036854775807<1+nm.length:=Qa
 have bi:(ak nm).size=nm.length:=a7 _;have bj:((⟨#[40]⟩:ByteArray)).size=1:=rfl;go_enter func241,ntmps241;go_wp2_with fail;refine aB 6 3 [] mixed Qb trivial ?_;repeat (refine sx ?_ (λbb aC=> ?_) ?_;rotate_left;(focus have bF:=(aj.out.ex aC.un).box.cell;clear aC;go_simp<;>with_reducible rfl);simp only[bA,bx,bw,br,bo])
 intro ba au aR;clear aR;simp only[ae,aw];have y:=G (aj.out.ex au.un);clear au J aj;have J:=y.out.box.cell;go_wp2_with ((go_at_call 118;refine(cY b l c1 _ y.out.bu Qa).mono ?_;rintro e u2 ⟨rfl,w,o⟩;have F:=G (y.out.wr w o);clear w o y;clear J;have J:=F.out.box.cell));clear J
 go_loopw [66] (λal wr=> ∃j:Nat,al= .int .i64 (j:Int)/\j<=n/\Hid (PC b u.heap.size u P 206 #[.int .i64 5, .string (ak op), .string (ak nm), .string (ak tx), .int .i64 v, .slice I n c] (.slice I n c) xs (l++c1++eN [44,32] ((fM xs).take j)) wr)) (λal _=>n-(intOf al).toNat)
 case atStart=>exact⟨0,rfl,aD _,by simpa[eN]using F⟩
 case round=>
  clear F;obtain⟨j,rfl,bz,H⟩:=hrel;by_cases hlt:j<n
  ·have aS:(j:Int)<n:=Qa
   have aA:j<xs.length:=by have:=aN.out;omega
   obtain⟨bG,bd,bH,rfl,bB,bD,e0,a3,a2,a1,aZ,aX,af⟩:=H.out.rd.at_ j aA;have ap:=G (a6.out _ (ay aA));have am:(fM xs).length=xs.length:=by rw[nf];simp
   have ax:(fM xs)[j]' Qa=c_ xs[j]:=by simp[nf]
   have Z:=G (show eN [44,32] ((fM xs).take (j+1))=eN [44,32] ((fM xs).take j)++((if(fM xs).take j=[]then[]else[44,32])++c_ xs[j])from by rw[aT Qa,wE,ax]);have bC:(eN [44,32] ((fM xs).take (j+1))).length<=(eN [44,32] (fM xs)).length:=by
    have:fM xs=(fM xs).take (j+1)++(fM xs).drop (j+1):=(db _ _).symm
    conv=>rhs;rw[this]
    cases A:(fM xs).take (j+1)with
    |nil=>simp[eN]
    |cons a r=>simp[eN]
   have ad:((fM xs).take j=[])↔j=0:=by
    rw[List.take_eq_nil_iff];constructor
    ·rintro(A|A)
     ·exact A
     ·rw[A]at am;simp at am;omega
    ·exact λA=> .inl A
   generalize xs[j]=d at*;unfold pu at ap;obtain⟨ab,V,rfl,_⟩:=af.form;have a8:=G af;have aW:d.args.length=d.args.length:=rfl;have bg:=H.out.bu.lt;have y:=G (H.out.ex (aa _ (.cells #[.int .i64 d.k, .string (ak d.op), .string (ak d.nm), .string (ak d.tx), .int .i64 d.v, .slice ab d.args.length V] 206)));have aI:=G (aq wr 206 #[.int .i64 d.k, .string (ak d.op), .string (ak d.nm), .string (ak d.tx), .int .i64 d.v, .slice ab d.args.length V]);have aQ:wr.heap.size≠b:=Qa
   have aK:=G (af.keep (.of_ext (aa wr (.cells #[.int .i64 d.k, .string (ak d.op), .string (ak d.nm), .string (ak d.tx), .int .i64 d.v, .slice ab d.args.length V] 206))) (λ_ K _=>K));generalize eN [44,32] ((fM xs).take j)=X at*;generalize aG:eN [44,32] ((fM xs).take (j+1))=a4 at*;have M:=congrArg List.length Z.out;simp only[ac]at M;generalize c_ d=bI at*;clear af am ax a8 aW;by_cases hj0:j=0
   ·subst hj0;simp only[aY,bm]at e0 a3 a2 a1 aZ aX;rw[if_pos (ad.2 rfl)]at Z M;simp only[ai]at M;clear ad;go_wp2_with (go_at_call 241;refine(ap.out P _ ab _ V b (l++c1++X) aK.out ah y.out.tab y.out.bu (by simp only[ac];omega)).mono ?_;rintro e u3 ⟨rfl,w,o⟩;have ar:=G (y.out.wr w o);clear w o y);go_roundw
    case rel=>exact⟨1,rfl,by omega,by have:=Z.out;rw[show eN [44,32] (List.take 1 (fM xs))=a4 from aG,this];simpa[aL]using ar⟩
    case measure=>simp[intOf];omega
   ·have bv:(0:Int)<j:=Qa
    have bt:0<j:=Qa
    rw[if_neg (λA=>hj0 (ad.1 A))]at Z M;simp only[ag,ai]at M;clear ad;have aP:=aI.out.cell;go_wp2_with (first|(go_at_call 118;refine(cY b (l++c1++X) [44,32] _ y.out.bu (by simp only[ac,ag,ai];omega)).mono ?_;rintro e u2 ⟨rfl,w,o⟩;have F:=G (y.out.wr w o);have a5:=G (o.keep _ _ _ aQ Qd aI.out);have bf:=a5.out.cell;have a9:=G (aK.out.keep (o.keepP ah) (λ_ K _=>K));clear w o y;clear aP)|(go_at_call 241;refine(ap.out P _ ab _ V b (l++c1++X++[44,32]) a9.out ah F.out.tab F.out.bu (by simp only[ac,ag,ai];omega)).mono ?_;rintro e u3 ⟨rfl,w,o⟩;have ar:=G (F.out.wr w o);clear w o F));go_roundw
    case rel=>exact⟨j+1,by go_num,by omega,by have:=Z.out;rw[aG,this];simpa[aL]using ar⟩
    case measure=>simp[intOf];omega
  ·have aS: ¬(j:Int)<n:=Qa
   have aU:j=n:=Qa
   have aM:=G (show(fM xs).take j=fM xs from by rw[aU,aN.out,bO (by rw[nf];simp)]);rw[aM.out]at H;generalize eN [44,32] (fM xs)=X at*;clear aM;go_wp2_with ((go_at_call 118;refine(cY b (l++c1++X) [41] _ H.out.bu (by simp only[ac,ag,ai];omega)).mono ?_;rintro e bc ⟨rfl,w,o⟩;have aO:=G (H.out.wr w o);clear w o H))
   go_end0
   exact⟨rfl,by rw[<-aJ.out];have:=aO.out.bu;rw[<-ao.out]at this;simpa[aL]using this,aO.out.fb⟩
theorem Jd (op nm tx:List UInt8) (v:Int) (d:Ex) (aD:pu d) (P:Nat->Prop) (u:World) (aR:Option Addr) (n c b:Nat) (l:List UInt8) (Z:dL u P (.slice aR n c) [d]) (J: ∀k,P k->k<b) (R:ea u b) (V:Bu u b l) (S:List UInt8) (aI:c_ (.mk 6 op nm tx v [d])=S) (bi:l.length+S.length<=1000000000):
  Calls prog 241 #[.pointer (some ⟨b,0,none⟩), .agg #[.int .i64 6, .string (ak op), .string (ak nm), .string (ak tx), .int .i64 v, .slice aR n c]] u λe w'=>e= .returned (.tuple #[])/\Bu w' b (l++S)/\FB b u w':=by
 have aG:=Z.len;have aN:=G (show op++oZ (decide (d.prec<7)) (c_ d)=S from by rw[<-aI];rfl);have bf:=pM (decide (d.prec<7)) (c_ d);have bh:op.length+(oZ (decide (d.prec<7)) (c_ d)).length=S.length:=by rw[<-aN.out];simp only[ac]
 have bg:(c_ d).length<=(oZ (decide (d.prec<7)) (c_ d)).length:=by unfold oZ;split<;>simp<;>omega
 clear aI;simp only[ag,ai]at aG;obtain rfl:n=1:=aG;obtain⟨b0,o,a0,aZ,y,A,ap,ao,an,am,al,aj,X⟩:=Z.at_ 0 Qe;simp only[aF,aP,aY,bm,cP]at ap ao an am al aj X;obtain⟨aQ,aM,rfl,_⟩:=X.form;have F:=G (aC ap (aC ao (aC an (aC am (aC al aj)))));have a9:=G X;clear ap ao an am al aj X;subst aZ;have ah:=G (show PC b u.heap.size u P 206 #[.int .i64 6, .string (ak op), .string (ak nm), .string (ak tx), .int .i64 v, .slice (some ⟨b0,o,none⟩) 1 c] (.slice (some ⟨b0,o,none⟩) 1 c) [d] l _ from⟨aq u 206 #[.int .i64 6, .string (ak op), .string (ak nm), .string (ak tx), .int .i64 v, .slice (some ⟨b0,o,none⟩) 1 c],V.ext (aa u _),Z.keep (.of_ext (aa u _)) (λ_ ax _=>ax),aV (aa u _) (aH V.lt),R.fb (aV (aa u _) (aH V.lt)),bU V.lt,by decide,J⟩);have M:=ah.out.box.cell;clear V Z R;have bb:=G (λu=>nv d u (.slice aQ d.args.length aM) ⟨_,_,_,rfl⟩);have bc:=G (sI d aD);generalize d.prec=au at*;generalize c_ d=a7 at*;clear aD;go_enter func241,ntmps241;go_wp2_with fail;refine aB 5 3 [] mixed Qb trivial ?_;repeat (refine sx ?_ (λaz H=> ?_) ?_;rotate_left;(focus have aK:=(ah.out.ex H.un).box.cell;clear H;go_simp<;>with_reducible rfl);simp only[bA,bx,bw,br,bo])
 intro bd aA I;clear I;simp only[ae,aw];have af:=G (ah.out.ex aA.un);clear aA M ah;have M:=af.out.box.cell;go_wp2_with ((go_at_call 118;refine(cY b l op _ af.out.bu Qa).mono ?_;rintro e u2 ⟨rfl,ad,ab⟩;have w:=G (af.out.wr ad ab);clear ad ab af;clear M;have M:=w.out.box.cell));have av:=aH w.out.bu.lt;clear M;refine ja b 12 8 [(9,λx=>x= .int .i64 au,λ_ _=>True),(11,λx=>x= .tuple #[],λ_ aS=>Bu aS b (l++op++oZ (decide (au<7)) a7))] 11 mixed Qb av ⟨λ_ _ _ _ _=>trivial,λ_ _ _ a1 aW=>a1.ext aW,trivial⟩ ⟨.inr λ_ _ _ _ _=>trivial, .inl rfl,trivial⟩ ?_;repeat (refine sx ?_ (λaz H=> ?_) ?_;rotate_left;(focus have K:=nH (H av);have aK:=(K.keep _ _ _ w.out.ne w.out.tt w.out.box).cell;have a:=ft (w.out.fb.keepP J) (K.keepP J);have e0:=(a.cell (o) A y).trans F.out.1;have a6:=(a.cell (o+1) A y).trans F.out.2.1;have a5:=(a.cell (o+2) A y).trans F.out.2.2.1;have a4:=(a.cell (o+3) A y).trans F.out.2.2.2.1;have a3:=(a.cell (o+4) A y).trans F.out.2.2.2.2.1;have a2:=(a.cell (o+5) A y).trans F.out.2.2.2.2.2;clear K a H;go_simp<;>with_reducible rfl);simp only[bA,bx,bw,br,bo])
 refine so (λar H I a8 a=> ?_) ?_
 ·clear I H;go_simp;refine(bb.out ar).mono ?_;rintro e aT ⟨rfl,aX⟩;exact a _ _ aX rfl trivial
 rintro _ rfl;simp only[bA,bx,bw,br,bo];repeat (refine sx ?_ (λaz H=> ?_) ?_;rotate_left;(focus have K:=nH (H av);have aK:=(K.keep _ _ _ w.out.ne w.out.tt w.out.box).cell;have a:=ft (w.out.fb.keepP J) (K.keepP J);have e0:=(a.cell (o) A y).trans F.out.1;have a6:=(a.cell (o+1) A y).trans F.out.2.1;have a5:=(a.cell (o+2) A y).trans F.out.2.2.1;have a4:=(a.cell (o+3) A y).trans F.out.2.2.2.1;have a3:=(a.cell (o+4) A y).trans F.out.2.2.2.2.1;have a2:=(a.cell (o+5) A y).trans F.out.2.2.2.2.2;clear K a H;go_simp<;>with_reducible rfl);simp only[bA,bx,bw,br,bo])
 refine dD _ _ Qf rfl ⟨_,rfl⟩ rfl (λar R I a8 a=> ?_) ?_
 ·have aO:=G (w.out.ex R.un);have aJ:=a9.out.keep (ft (w.out.fb.keepP J) (.of_ext R.un)) (λ_ ax _=>ax);have ba:=G aJ;clear I R aJ;go_simp;refine(bc.out (decide (au<7)) P ar aQ _ aM b (l++op) ba.out J aO.out.tab aO.out.bu (by first|omega|(simp only[ac,ag,ai];omega))).mono ?_;rintro e aT ⟨rfl,ad,ab⟩;exact a _ _ (λ_=>ab) rfl ad
 rintro _ rfl;simp only[bA,bx,bw,br,bo];intro be aE I;have ay:=G (w.out.wr (I _ (.head _)) aE);clear aE I;simp only[ae,aU];have M:=ay.out.box.cell;go_wp2_with fail
 go_end0
 exact⟨rfl,by rw[<-aN.out];have:=ay.out.bu;simpa[aL]using this,ay.out.fb⟩
theorem Jc (op nm tx:List UInt8) (v:Int) (o z:Ex) (bt:pu o) (bq:pu z) (P:Nat->Prop) (u:World) (bL:Option Addr) (n c b:Nat) (l:List UInt8) (ao:dL u P (.slice bL n c) [o,z]) (F: ∀k,P k->k<b) (ab:ea u b) (ap:Bu u b l) (S:List UInt8) (bB:c_ (.mk 7 op nm tx v [o,z])=S) (bY:l.length+S.length<=1000000000):
  Calls prog 241 #[.pointer (some ⟨b,0,none⟩), .agg #[.int .i64 7, .string (ak op), .string (ak nm), .string (ak tx), .int .i64 v, .slice bL n c]] u λe w'=>e= .returned (.tuple #[])/\Bu w' b (l++S)/\FB b u w':=by
 have bz:=ao.len;have bI:=G (show oZ (decide (o.prec<my op)) (c_ o)++([32]++op++[32])++oZ (decide (z.prec<=my op)) (c_ z)=S from by rw[<-bB];rfl);have bX:(oZ (decide (o.prec<my op)) (c_ o)).length+(1+op.length+1)+(oZ (decide (z.prec<=my op)) (c_ z)).length=S.length:=by rw[<-bI.out];simp only[ac,ag,ai]
 have bT:(c_ o).length<=(oZ (decide (o.prec<my op)) (c_ o)).length:=by unfold oZ;split<;>simp<;>omega
 have bS:(c_ z).length<=(oZ (decide (z.prec<=my op)) (c_ z)).length:=by unfold oZ;split<;>simp<;>omega
 clear bB;simp only[ag,ai]at bz;obtain rfl:n=2:=bz;obtain⟨b0,d,a0,b6,K,R,aZ,aW,aS,aQ,aN,aK,aA⟩:=ao.at_ 0 Qe;simp only[aF,aP,aY,bm,cP]at aZ aW aS aQ aN aK aA;obtain⟨bK,bD,rfl,_⟩:=aA.form;subst b6;obtain⟨b1,ch,bd,ar,J,M,aX,aT,aR,aO,aM,aJ,az⟩:=ao.at_ 1 Qe;simp only[aF,aP,aY,bm,cP]at aX aT aR aO aM aJ az;obtain⟨bJ,bC,rfl,_⟩:=az.form;injection ar with ar;injection ar with ar b5;subst ar b5;have X:=G (aC aZ (aC aW (aC aS (aC aQ (aC aN aK)))));have b9:=G aA;clear aZ aW aS aQ aN aK aA;have V:=G (aC aX (aC aT (aC aR (aC aO (aC aM aJ)))));have b8:=G az;clear aX aT aR aO aM aJ az;have bk:=G (show PC b u.heap.size u P 206 #[.int .i64 7, .string (ak op), .string (ak nm), .string (ak tx), .int .i64 v, .slice (some ⟨b0,d,none⟩) 2 c] (.slice (some ⟨b0,d,none⟩) 2 c) [o,z] l _ from⟨aq u 206 #[.int .i64 7, .string (ak op), .string (ak nm), .string (ak tx), .int .i64 v, .slice (some ⟨b0,d,none⟩) 2 c],ap.ext (aa u _),ao.keep (.of_ext (aa u _)) (λ_ am _=>am),aV (aa u _) (aH ap.lt),ab.fb (aV (aa u _) (aH ap.lt)),bU ap.lt,by decide,F⟩);have Z:=bk.out.box.cell;clear ap ao ab;have cb:=G (λu=>nv o u (.slice bK o.args.length bD) ⟨_,_,_,rfl⟩);have cd:=G (sI o bt);have ca:=G (λu=>nv z u (.slice bJ z.args.length bC) ⟨_,_,_,rfl⟩);have cc:=G (sI z bq);generalize o.prec=ay at*;generalize z.prec=ax at*;obtain⟨c1,bg⟩: ∃c,Hid ([32]++op=c):=⟨_,G rfl⟩
 have bn:c1.length=1+op.length:=by rw[<-bg.out,ac];rfl
 have bN:(⟨#[32]⟩:ByteArray)++ak op=ak c1:=by rw[<-bg.out];exact eq _ _
 have bW: ¬9223372036854775807<1+op.length:=Qa
 have b4: ¬9223372036854775807<op.length+1:=Qa
 have bR:((⟨#[32]⟩:ByteArray)).size=1:=rfl;have bQ:(ak op).size=op.length:=a7 _;obtain⟨c2,bf⟩: ∃c,Hid (c1++[32]=c):=⟨_,G rfl⟩
 have bl:c2.length=c1.length+1:=by rw[<-bf.out,ac];rfl
 have bM:ak c1++(⟨#[32]⟩:ByteArray)=ak c2:=by rw[<-bf.out];exact eq _ _
 have bV: ¬9223372036854775807<c1.length+1:=Qa
 have bZ: ¬9223372036854775807<1+c1.length:=Qa
 have bP:(ak c1).size=c1.length:=a7 _;have bO:((⟨#[32]⟩:ByteArray)).size=1:=rfl;have bH:=G bn;have bG:=G bl;clear bn bl;have bi:=G (λu=>nv (.mk 7 op nm tx v [o,z]) u (.slice (some ⟨b0,d,none⟩) 2 c) ⟨_,_,_,rfl⟩);have bv:Ex.prec (.mk 7 op nm tx v [o,z])=my op:=rfl;rw[bv]at bi;simp only[Ex.k,Ex.op,Ex.nm,Ex.tx,Ex.v]at bi;generalize my op=L at*;generalize c_ o=bF at*;generalize c_ z=bE at*;clear bt bq bv;go_enter func241,ntmps241;go_wp2_with (go_at_call 257;refine(bi.out _).mono ?_;rintro e u1 ⟨rfl,af⟩;have I:=G (bk.out.ex af);clear af Z bk;have Z:=I.out.box.cell);have a5:=aH I.out.bu.lt;clear Z;refine ja b 13 8 [(9,λx=>x= .int .i64 ay,λ_ _=>True),(12,λx=>x= .tuple #[],λ_ a1=>Bu a1 b (l++oZ (decide (ay<L)) bF))] 12 mixed Qb a5 ⟨λ_ _ _ _ _=>trivial,λ_ _ _ a6 a3=>a6.ext a3,trivial⟩ ⟨.inr λ_ _ _ _ _=>trivial, .inl rfl,trivial⟩ ?_;repeat (refine sx ?_ (λav w=> ?_) ?_;rotate_left;(focus have A:=nH (w a5);have aD:=(A.keep _ _ _ I.out.ne I.out.tt I.out.box).cell;have a:=ft (I.out.fb.keepP F) (A.keepP F);have e0:=(a.cell (d) R K).trans X.out.1;have bc:=(a.cell (d+1) R K).trans X.out.2.1;have bb:=(a.cell (d+2) R K).trans X.out.2.2.1;have ba:=(a.cell (d+3) R K).trans X.out.2.2.2.1;have a9:=(a.cell (d+4) R K).trans X.out.2.2.2.2.1;have a8:=(a.cell (d+5) R K).trans X.out.2.2.2.2.2;clear A a w;go_simp<;>with_reducible rfl);simp only[bA,bx,bw,br,bo])
 refine so (λad w y be a=> ?_) ?_
 ·clear y w;go_simp;refine(cb.out ad).mono ?_;rintro e a2 ⟨rfl,af⟩;exact a _ _ af rfl trivial
 rintro _ rfl;simp only[bA,bx,bw,br,bo];repeat (refine sx ?_ (λav w=> ?_) ?_;rotate_left;(focus have A:=nH (w a5);have aD:=(A.keep _ _ _ I.out.ne I.out.tt I.out.box).cell;have a:=ft (I.out.fb.keepP F) (A.keepP F);have e0:=(a.cell (d) R K).trans X.out.1;have bc:=(a.cell (d+1) R K).trans X.out.2.1;have bb:=(a.cell (d+2) R K).trans X.out.2.2.1;have ba:=(a.cell (d+3) R K).trans X.out.2.2.2.1;have a9:=(a.cell (d+4) R K).trans X.out.2.2.2.2.1;have a8:=(a.cell (d+5) R K).trans X.out.2.2.2.2.2;clear A a w;go_simp<;>with_reducible rfl);simp only[bA,bx,bw,br,bo])
 refine dD _ _ Qf rfl ⟨_,rfl⟩ rfl (λad ab y be a=> ?_) ?_
 ·have au:=G (I.out.ex ab.un);have an:=b9.out.keep (ft (I.out.fb.keepP F) (.of_ext ab.un)) (λ_ am _=>am);have bh:=G an;clear y ab an;go_simp;refine(cd.out (decide (ay<L)) P ad bK _ bD b (l) bh.out F au.out.tab au.out.bu (by first|omega|(simp only[ac,ag,ai];omega))).mono ?_;rintro e a2 ⟨rfl,aj,ah⟩;exact a _ _ (λ_=>ah) rfl aj
 rintro _ rfl;simp only[bA,bx,bw,br,bo];intro cg al y;have aI:=G (I.out.wr (y _ (.head _)) al);clear al y;simp only[ae,aU];have Z:=aI.out.box.cell;go_wp2_with fail;generalize ci:oZ (decide (ay<L)) bF=aE at*;refine aB 7 3 [] mixed Qb trivial ?_;repeat (refine sx ?_ (λav w=> ?_) ?_;rotate_left;(focus have aD:=(aI.out.ex w.un).box.cell;clear w;go_simp<;>with_reducible rfl);simp only[bA,bx,bw,br,bo])
 intro ce bp y;clear y;simp only[ae,aw];have aG:=G (aI.out.ex bp.un);clear bp Z aI;have Z:=aG.out.box.cell;go_wp2_with ((go_at_call 118;refine(cY b (l++aE) c2 _ aG.out.bu (by have bd:=bH.out;have b7:=bG.out;simp only[ac];omega)).mono ?_;rintro e u4 ⟨rfl,aj,ah⟩;have H:=G (aG.out.wr aj ah);clear aj ah aG;clear Z;have Z:=H.out.box.cell));have bd:l.length+aE.length+c2.length+(oZ (decide (ax<=L)) bE).length<=1000000000:=by have bd:=bH.out;have b7:=bG.out;omega
 clear bN bM bW bV b4 bZ bR bQ bP bO bX bY bT bS;have a4:=aH H.out.bu.lt;clear Z;refine ja b 13 8 [(9,λx=>x= .int .i64 ax,λ_ _=>True),(12,λx=>x= .tuple #[],λ_ a1=>Bu a1 b (l++aE++c2++oZ (decide (ax<=L)) bE))] 12 mixed Qb a4 ⟨λ_ _ _ _ _=>trivial,λ_ _ _ a6 a3=>a6.ext a3,trivial⟩ ⟨.inr λ_ _ _ _ _=>trivial, .inl rfl,trivial⟩ ?_;repeat (refine sx ?_ (λav w=> ?_) ?_;rotate_left;(focus have A:=nH (w a4);have aD:=(A.keep _ _ _ H.out.ne H.out.tt H.out.box).cell;have a:=ft (H.out.fb.keepP F) (A.keepP F);have e0:=(a.cell (d+6) M J).trans V.out.1;have bc:=(a.cell (d+6+1) M J).trans V.out.2.1;have bb:=(a.cell (d+6+2) M J).trans V.out.2.2.1;have ba:=(a.cell (d+6+3) M J).trans V.out.2.2.2.1;have a9:=(a.cell (d+6+4) M J).trans V.out.2.2.2.2.1;have a8:=(a.cell (d+6+5) M J).trans V.out.2.2.2.2.2;clear A a w;go_simp<;>with_reducible rfl);simp only[bA,bx,bw,br,bo])
 refine so (λad w y be a=> ?_) ?_
 ·clear y w;go_simp;refine(ca.out ad).mono ?_;rintro e a2 ⟨rfl,af⟩;exact a _ _ af rfl trivial
 rintro _ rfl;simp only[bA,bx,bw,br,bo];repeat (refine sx ?_ (λav w=> ?_) ?_;rotate_left;(focus have A:=nH (w a4);have aD:=(A.keep _ _ _ H.out.ne H.out.tt H.out.box).cell;have a:=ft (H.out.fb.keepP F) (A.keepP F);have e0:=(a.cell (d+6) M J).trans V.out.1;have bc:=(a.cell (d+6+1) M J).trans V.out.2.1;have bb:=(a.cell (d+6+2) M J).trans V.out.2.2.1;have ba:=(a.cell (d+6+3) M J).trans V.out.2.2.2.1;have a9:=(a.cell (d+6+4) M J).trans V.out.2.2.2.2.1;have a8:=(a.cell (d+6+5) M J).trans V.out.2.2.2.2.2;clear A a w;go_simp<;>with_reducible rfl);simp only[bA,bx,bw,br,bo])
 refine dD _ _ Qf rfl ⟨_,rfl⟩ rfl (λad ab y be a=> ?_) ?_
 ·have au:=G (H.out.ex ab.un);have an:=b8.out.keep (ft (H.out.fb.keepP F) (.of_ext ab.un)) (λ_ am _=>am);have bh:=G an;clear y ab an;go_simp;refine(cc.out (decide (ax<=L)) P ad bJ _ bC b (l++aE++c2) bh.out F au.out.tab au.out.bu (by first|omega|(simp only[ac,ag,ai];omega))).mono ?_;rintro e a2 ⟨rfl,aj,ah⟩;exact a _ _ (λ_=>ah) rfl aj
 rintro _ rfl;simp only[bA,bx,bw,br,bo];intro cf al y;have bj:=G (H.out.wr (y _ (.head _)) al);clear al y;simp only[ae,aU];have Z:=bj.out.box.cell;go_wp2_with fail
 go_end0
 exact⟨rfl,by rw[<-bI.out];have:=bj.out.bu;rw[<-bf.out,<-bg.out]at this;simpa[aL]using this,bj.out.fb⟩
end
section
open Go.RowKit
theorem xw: ∀(m:Nat) (x:Ex),x.wt<=m->x.ok=true->pu x
 |0,x,hm,_=>absurd hm (by have:=x.wt_eq;omega)
 |m+1, .mk k op nm tx v a,hm,h=>by
  have R:=(Ex.mk k op nm tx v a).wt_eq;simp only[Ex.op,Ex.nm,Ex.tx,Ex.args]at R;rw[Ex.ok,an]at h;obtain⟨d,M⟩:=h;rw[sN]at M;have J: ∀o,o∈a->pu o:=λo K=>xw m o (by have:=em K;omega) (List.all_eq_true.1 M o K);intro P w I n c b l F G A H y;simp only[Ex.k,Ex.op,Ex.nm,Ex.tx,Ex.v,Ex.args]at*;by_cases k1:k=1
  ·subst k1;rw[if_pos rfl]at d;simp only[an,decide_eq_true_eq]at d;exact Ji op nm tx v a d.1.1.1 d.1.1.2 P w I n c b l F G A H _ rfl y
  rw[if_neg k1]at d;by_cases k2:k=2
  ·subst k2;rw[if_pos rfl]at d;simp only[an,sK,decide_eq_true_eq]at d;exact Jh op nm tx v a d.1.1.2 P w I n c b l F G A H _ rfl y
  rw[if_neg k2]at d;by_cases k3:k=3
  ·subst k3;exact Jg op nm tx v a P w I n c b l F G A H _ rfl y
  rw[if_neg k3]at d;by_cases k4:k=4
  ·subst k4;rw[if_pos rfl]at d;simp only[an,beq_iff_eq]at d;obtain⟨o,rfl⟩:=List.length_eq_one_iff.1 d.2;exact Jf op nm tx v o (J o Qe) P w I n c b l F G A H _ rfl y
  rw[if_neg k4]at d;by_cases k5:k=5
  ·subst k5;rw[if_pos rfl]at d;simp only[an,decide_eq_true_eq]at d;exact Je op nm tx v a J d.1.2 P w I n c b l F G A H _ rfl y
  rw[if_neg k5]at d;by_cases k6:k=6
  ·subst k6;rw[if_pos rfl]at d;simp only[an,beq_iff_eq]at d;obtain⟨o,rfl⟩:=List.length_eq_one_iff.1 d.2;exact Jd op nm tx v o (J o Qe) P w I n c b l F G A H _ rfl y
  rw[if_neg k6]at d;by_cases k7:k=7
  ·subst k7;rw[if_pos rfl]at d;simp only[an,beq_iff_eq]at d;obtain⟨o,z,rfl⟩: ∃o z,a=[o,z]:=by
    cases a with
    |nil=>simp at d
    |cons o r=>
     cases r with
     |nil=>simp at d
     |cons z r=>
      cases r with
      |nil=>exact⟨o,z,rfl⟩
      |cons u r=>simp at d
   exact Jc op nm tx v o z (J o Qe) (J z Qe) P w I n c b l F G A H _ rfl y
  ·rw[if_neg k7]at d
   cases d
theorem Dm {x:Ex} (a:x.ok=true):pu x:=xw _ x (ah _) a
def lb (i:Nat):List UInt8:=List.replicate i 9
def f_ (i:Nat) (ts:List (List UInt8)):List UInt8:=[123,10]++ts.flatMap (λt=>lb (i+1)++t++[10])++(lb i++[125])
def Ae:List UInt8:=[118,97,114,32]
def II:List UInt8:=[32,61,32]
def G5:List UInt8:=[105,102,32]
def pX:List UInt8:=[32,101,108,115,101,32]
def Ad:List UInt8:=[119,104,105,108,101,32]
def pH:List UInt8:=[114,101,116,117,114,110]
def lH (i:Nat) (k:Int) (nm:List UInt8) (es bs ls l0:List (List UInt8)) (po:Bool):List UInt8:=
 if k=1 then(if es=[]then Ae++nm++[59]else Ae++nm++II++es.headD []++[59])
 else if k=2 then nm++II++es.headD []++[59]
 else if k=3 then nm++[91]++es.headD []++[93]++(II++es.tail.headD []++[59])
 else if k=4 then G5++es.headD []++[32]++f_ i bs++(if po then pX++l0.headD []else if ls=[]then[]else pX++f_ i ls)
 else if k=5 then Ad++es.headD []++[32]++f_ i bs
 else if k=6 then(if es=[]then pH++[59]else pH++[32]++es.headD []++[59])
 else if k=7 then es.headD []++[59]
 else[]
def oM (l:List St):Bool:=l.length==1&&l.head?.map St.k==some 4
mutual
def eH:St->Nat->List UInt8| .mk k nm e b l,i=>lH i k nm (fM e) (ch b (i+1)) (ch l (i+1)) (ch l i) (oM l)
def ch:List St->Nat->List (List UInt8)
 | [],_=>[]
 |x::r,i=>eH x i::ch r i
end
theorem l5: ∀(l:List St) (i:Nat),ch l i=l.map λx=>eH x i
 | [],_=>rfl
 |x::r,i=>by rw[ch,l5 r i];rfl
def mI (v:Vr):List UInt8:=Ae++v.nm++(if 0<v.sz then[91]++lR v.sz.toNat++[93]else[])++[59,10]
def Af:List UInt8:=[102,117,110,99,32]
def mJ (f:Fc):List UInt8:=Af++f.nm++[40]++eN [44,32] f.ps++[41,32]++f_ 0 (ch f.body 1)++[10]
def lF (p:Pg):List UInt8:=p.vs.flatMap mI++p.fs.flatMap mJ
end
section
open Go.RowKit
structure PS (b px:Nat) (w0:World) (P:Nat->Prop) (cs:Array Value) (e v z:Value) (x:St) (l:List UInt8) (W:World):Prop where
 box:aM W px 147 cs
 bu:Bu W b l
 re:dL W P e x.ex
 rb:ed W P v x.body
 rl:ed W P z x.els
 fb:FB b w0 W
 tab:ea W b
 ne:px≠b
 tt:147≠5
 hP: ∀k,P k->k<b
section
variable {b px:Nat} {w0 W W':World} {P:Nat->Prop} {cs:Array Value} {e v z:Value} {x:St} {l l':List UInt8}
theorem PS.wr (a:PS b px w0 P cs e v z x l W) (o:Bu W' b l') (d:FB b W W'):PS b px w0 P cs e v z x l' W':=
 ⟨d.keep _ _ _ a.ne a.tt a.box,o,a.re.keep (d.keepP a.hP) (λ_ h _=>h),a.rb.keep (d.keepP a.hP) (λ_ h _=>h),a.rl.keep (d.keepP a.hP) (λ_ h _=>h),a.fb.trans d,a.tab.fb d,a.ne,a.tt,a.hP⟩
theorem PS.ex (a:PS b px w0 P cs e v z x l W) (d:au W W'):PS b px w0 P cs e v z x l W':=a.wr (a.bu.ext d) (aV d (aH a.bu.lt))
end
theorem fl (x:Ex) (J:pu x) (u F:List UInt8) (P:Nat->Prop) (a:World) (y:Option Addr) (n c b:Nat) (l:List UInt8) (R:dL a P (.slice y n c) x.args) (V: ∀k,P k->k<b) (M:ea a b) (A:Bu a b l) (ad:l.length+u.length+(c_ x).length+F.length<=1000000000):
  Calls prog 216 #[.pointer (some ⟨b,0,none⟩), .string (ak u), .agg #[.int .i64 x.k, .string (ak x.op), .string (ak x.nm), .string (ak x.tx), .int .i64 x.v, .slice y n c], .string (ak F)] a λe w'=>e= .returned (.tuple #[])/\Bu w' b (l++(u++c_ x++F))/\FB b a w':=by
 have X:=G J;clear J;unfold pu at X;generalize c_ x=S at*;generalize ae:x.args=xs at*;generalize x.k=k at*;generalize x.op=op at*;generalize x.nm=nm at*;generalize x.tx=tx at*;generalize x.v=v at*;have H:=G (show PC b a.heap.size a P 206 #[.int .i64 k, .string (ak op), .string (ak nm), .string (ak tx), .int .i64 v, .slice y n c] (.slice y n c) xs l _ from⟨aq a 206 #[.int .i64 k, .string (ak op), .string (ak nm), .string (ak tx), .int .i64 v, .slice y n c],A.ext (aa a _),R.keep (.of_ext (aa a _)) (λ_ ab _=>ab),aV (aa a _) (aH A.lt),M.fb (aV (aa a _) (aH A.lt)),bU A.lt,by decide,V⟩);have K:=H.out.box.cell;clear A R M;go_enter func216,ntmps216;go_wp2_with (first|(go_at_call 118;refine(cY b l u _ H.out.bu Qa).mono ?_;rintro e u1 ⟨rfl,o,d⟩;have w:=G (H.out.wr o d);clear o d H;clear K;have K:=w.out.box.cell)|(go_at_call 241;refine(X.out P _ y n c b (l++u) w.out.rd V w.out.tab w.out.bu (by simp only[ac];omega)).mono ?_;rintro e u2 ⟨rfl,o,d⟩;have I:=G (w.out.wr o d);clear o d w)|(go_at_call 118;refine(cY b (l++u++S) F _ I.out.bu (by simp only[ac];omega)).mono ?_;rintro e u3 ⟨rfl,o,d⟩;have Z:=G (I.out.wr o d);clear o d I))
 go_end0
 exact⟨rfl,by have:=Z.out.bu;simpa[aL]using this,Z.out.fb⟩
def Ha (x:St):Prop:= ∀(P:Nat->Prop) (w:World) (A B C:Option Addr) (n c nb cb nl cl b i:Nat) (l:List UInt8),dL w P (.slice A n c) x.ex->ed w P (.slice B nb cb) x.body->ed w P (.slice C nl cl) x.els->(∀k,P k->k<b)->ea w b->Bu w b l->l.length+(eH x i).length<=1000000000->Calls prog 174 #[.pointer (some ⟨b,0,none⟩), .agg #[.int .i64 x.k, .string (ak x.nm), .slice A n c, .slice B nb cb, .slice C nl cl], .int .i64 (i:Int)] w λe w'=>e= .returned (.tuple #[])/\Bu w' b (l++eH x i)/\FB b w w'
def wY (x:St):Prop:= ∀(P:Nat->Prop) (w:World) (A B C:Option Addr) (n c nb cb nl cl b i:Nat) (l:List UInt8),dL w P (.slice A n c) x.ex->ed w P (.slice B nb cb) x.body->ed w P (.slice C nl cl) x.els->(∀k,P k->k<b)->ea w b->Bu w b l->l.length+(eH x i).length<=1000000000->Calls prog 217 #[.pointer (some ⟨b,0,none⟩), .agg #[.int .i64 x.k, .string (ak x.nm), .slice A n c, .slice B nb cb, .slice C nl cl], .int .i64 (i:Int)] w λe w'=>e= .returned (.tuple #[])/\Bu w' b (l++eH x i)/\FB b w w'
def mr (xs:List St):Prop:= ∀(P:Nat->Prop) (w:World) (B:Option Addr) (nb cb b i:Nat) (l:List UInt8),ed w P (.slice B nb cb) xs->(∀k,P k->k<b)->ea w b->Bu w b l->l.length+(f_ i (ch xs (i+1))).length<=1000000000->
 Calls prog 121 #[.pointer (some ⟨b,0,none⟩), .slice B nb cb, .int .i64 (i:Int)] w λe w'=>e= .returned (.tuple #[])/\Bu w' b (l++f_ i (ch xs (i+1)))/\FB b w w'
theorem Hk (nm:List UInt8) (M K:List St) (P:Nat->Prop) (a:World) (F B C:Option Addr) (n c o A d y b i:Nat) (l:List UInt8) (J:dL a P (.slice F n c) []) (an:ed a P (.slice B o A) M) (am:ed a P (.slice C d y) K) (ax: ∀k,P k->k<b) (aj:ea a b) (w:Bu a b l) (S:List UInt8) (al:eH (.mk 1 nm [] M K) i=S) (aO:l.length+S.length<=1000000000):
  Calls prog 174 #[.pointer (some ⟨b,0,none⟩), .agg #[.int .i64 1, .string (ak nm), .slice F n c, .slice B o A, .slice C d y], .int .i64 (i:Int)] a λe w'=>e= .returned (.tuple #[])/\Bu w' b (l++S)/\FB b a w':=by
 have ad:=J.len;simp only[ai]at ad;obtain rfl:n=0:=ad;have ar:=G (show[118,97,114,32]++nm++[59]=S from by rw[<-al];rfl);have aN:4+nm.length+1=S.length:=by rw[<-ar.out];simp only[ac,ag,ai]
 clear al;have I:=G (show PS b a.heap.size a P #[.int .i64 1, .string (ak nm), .slice F 0 c, .slice B o A, .slice C d y] (.slice F 0 c) (.slice B o A) (.slice C d y) (.mk 1 nm [] M K) l _ from⟨aq a 147 #[.int .i64 1, .string (ak nm), .slice F 0 c, .slice B o A, .slice C d y],w.ext (aa a _),J.keep (.of_ext (aa a _)) (λ_ u _=>u),an.keep (.of_ext (aa a _)) (λ_ u _=>u),am.keep (.of_ext (aa a _)) (λ_ u _=>u),aV (aa a _) (aH w.lt),aj.fb (aV (aa a _) (aH w.lt)),bU w.lt,by decide,ax⟩);have af:=I.out.box.cell;clear w J aj an am;obtain⟨c1,V⟩: ∃c,Hid ([118,97,114,32]++nm=c):=⟨_,G rfl⟩
 have ab:c1.length=4+nm.length:=by rw[<-V.out,ac];(try rfl)
 have aE:(⟨#[118,97,114,32]⟩:ByteArray)++ak nm=ak c1:=by rw[<-V.out];exact eq _ _
 have aM: ¬9223372036854775807<4+nm.length:=Qa
 have aQ: ¬9223372036854775807<nm.length+4:=Qa
 have aJ:((⟨#[118,97,114,32]⟩:ByteArray)).size=4:=rfl;have aI:(ak nm).size=nm.length:=a7 _;obtain⟨c2,R⟩: ∃c,Hid (c1++[59]=c):=⟨_,G rfl⟩
 have Z:c2.length=c1.length+1:=by rw[<-R.out,ac];(try rfl)
 have aD:ak c1++(⟨#[59]⟩:ByteArray)=ak c2:=by rw[<-R.out];exact eq _ _
 have aK: ¬9223372036854775807<c1.length+1:=Qa
 have aP: ¬9223372036854775807<1+c1.length:=Qa
 have aG:(ak c1).size=c1.length:=a7 _;have aF:((⟨#[59]⟩:ByteArray)).size=1:=rfl;have az:=G ab;clear ab;have ay:=G Z;clear Z;go_enter func174,ntmps174;go_wp2_with fail;refine aB 7 3 [] mixed Qb trivial ?_;repeat (refine sx ?_ (λaC ah=> ?_) ?_;rotate_left;(focus have aR:=(I.out.ex ah.un).box.cell;clear ah;go_simp<;>with_reducible rfl);simp only[bA,bx,bw,br,bo])
 intro aA X av;clear av;simp only[ae,aw];have H:=G (I.out.ex X.un);clear X af I;have af:=H.out.box.cell;go_wp2_with ((go_at_call 118;refine(cY b l c2 _ H.out.bu (by(try have aT:=az.out);(try have aS:=ay.out);(try simp only[ac,ag,ai]);omega)).mono ?_;rintro e u2 ⟨rfl,ap,ao⟩;have au:=G (H.out.wr ap ao);clear ap ao H))
 (try simp only[Exit.inBlock,Exit.then]);refine bodyPost_ret (results_none rfl _ _ _) rfl ?_
 exact⟨rfl,by rw[<-ar.out];have:=au.out.bu;rw[<-R.out,<-V.out]at this;simpa[aL]using this,au.out.fb⟩
theorem Hj (nm:List UInt8) (ao an:List St) (y:Ex) (aO:pu y) (P:Nat->Prop) (a:World) (aN B C:Option Addr) (n c M X K V b i:Nat) (l:List UInt8) (ab:dL a P (.slice aN n c) [y]) (aG:ed a P (.slice B M X) ao) (aE:ed a P (.slice C K V) an) (u: ∀k,P k->k<b) (aA:ea a b) (R:Bu a b l) (S:List UInt8) (aD:eH (.mk 1 nm [y] ao an) i=S) (bd:l.length+S.length<=1000000000):
  Calls prog 174 #[.pointer (some ⟨b,0,none⟩), .agg #[.int .i64 1, .string (ak nm), .slice aN n c, .slice B M X, .slice C K V], .int .i64 (i:Int)] a λe w'=>e= .returned (.tuple #[])/\Bu w' b (l++S)/\FB b a w':=by
 have aK:=G (show[118,97,114,32]++nm++[32,61,32]++c_ y++[59]=S from by rw[<-aD];rfl);have aR:4+nm.length+3+(c_ y).length+1=S.length:=by rw[<-aK.out];simp only[ac,ag,ai]
 clear aD;have ay:=ab.len;simp only[ag,ai]at ay;obtain rfl:n=1:=ay;obtain⟨b0,o,a0,aS,F,H,am,al,aj,ah,af,ad,Z⟩:=ab.at_ 0 Qe;simp only[aF,aP,aY,bm,cP]at am al aj ah af ad Z;obtain⟨aZ,aT,rfl,_⟩:=Z.form;have I:=G (aC am (aC al (aC aj (aC ah (aC af ad)))));have aX:=G Z;clear am al aj ah af ad Z;subst aS;have d:=G (show PS b a.heap.size a P #[.int .i64 1, .string (ak nm), .slice (some ⟨b0,o,none⟩) 1 c, .slice B M X, .slice C K V] (.slice (some ⟨b0,o,none⟩) 1 c) (.slice B M X) (.slice C K V) (.mk 1 nm [y] ao an) l _ from⟨aq a 147 #[.int .i64 1, .string (ak nm), .slice (some ⟨b0,o,none⟩) 1 c, .slice B M X, .slice C K V],R.ext (aa a _),ab.keep (.of_ext (aa a _)) (λ_ A _=>A),aG.keep (.of_ext (aa a _)) (λ_ A _=>A),aE.keep (.of_ext (aa a _)) (λ_ A _=>A),aV (aa a _) (aH R.lt),aA.fb (aV (aa a _) (aH R.lt)),bU R.lt,by decide,u⟩);have az:=d.out.box.cell;clear R ab aA aG aE;obtain⟨c1,ar⟩: ∃c,Hid ([118,97,114,32]++nm=c):=⟨_,G rfl⟩
 have ax:c1.length=4+nm.length:=by rw[<-ar.out,ac];(try rfl)
 have a4:(⟨#[118,97,114,32]⟩:ByteArray)++ak nm=ak c1:=by rw[<-ar.out];exact eq _ _
 have bb: ¬9223372036854775807<4+nm.length:=Qa
 have bf: ¬9223372036854775807<nm.length+4:=Qa
 have a9:((⟨#[118,97,114,32]⟩:ByteArray)).size=4:=rfl;have a8:(ak nm).size=nm.length:=a7 _;obtain⟨c2,ap⟩: ∃c,Hid (c1++[32,61,32]=c):=⟨_,G rfl⟩
 have av:c2.length=c1.length+3:=by rw[<-ap.out,ac];(try rfl)
 have a3:ak c1++(⟨#[32,61,32]⟩:ByteArray)=ak c2:=by rw[<-ap.out];exact eq _ _
 have ba: ¬9223372036854775807<c1.length+3:=Qa
 have be: ¬9223372036854775807<3+c1.length:=Qa
 have a6:(ak c1).size=c1.length:=a7 _;have a5:((⟨#[32,61,32]⟩:ByteArray)).size=3:=rfl;have aW:=G ax;clear ax;have aU:=G av;clear av;go_enter func174,ntmps174;go_wp2_with fail;refine aB 9 3 [] mixed Qb trivial ?_;repeat (refine sx ?_ (λa2 w=> ?_) ?_;rotate_left;(focus have bg:=(d.out.ex w.un).box.cell;have e0:=((d.out.ex w.un).fb.keepP u).cell (o) H F|>.trans I.out.1;have bl:=((d.out.ex w.un).fb.keepP u).cell (o+1) H F|>.trans I.out.2.1;have bk:=((d.out.ex w.un).fb.keepP u).cell (o+2) H F|>.trans I.out.2.2.1;have bj:=((d.out.ex w.un).fb.keepP u).cell (o+3) H F|>.trans I.out.2.2.2.1;have bi:=((d.out.ex w.un).fb.keepP u).cell (o+4) H F|>.trans I.out.2.2.2.2.1;have bh:=((d.out.ex w.un).fb.keepP u).cell (o+5) H F|>.trans I.out.2.2.2.2.2;clear w;go_simp<;>with_reducible rfl);simp only[bA,bx,bw,br,bo])
 intro a1 au aQ;clear aQ;simp only[ae,aw];have J:=G (d.out.ex au.un);clear au az d;have az:=J.out.box.cell;have bc:=aR;go_wp2_with (go_at_call 216;refine(fl y aO c2 [59] P _ aZ _ aT b l (aX.out.keep (J.out.fb.keepP u) (λ_ A _=>A)) u J.out.tab J.out.bu (by(try have bp:=aW.out);(try have bn:=aU.out);simp only[ac,ag,ai];omega)).mono ?_;rintro e u2 ⟨rfl,aJ,aI⟩;have aM:=G (J.out.wr aJ aI);clear aJ aI J)
 go_end0
 exact⟨rfl,by rw[<-aK.out];have:=aM.out.bu;rw[<-ap.out,<-ar.out]at this;simpa[aL]using this,aM.out.fb⟩
theorem I5 (nm:List UInt8) (ao an:List St) (y:Ex) (aM:pu y) (P:Nat->Prop) (a:World) (aK B C:Option Addr) (n c M X K V b i:Nat) (l:List UInt8) (ab:dL a P (.slice aK n c) [y]) (aD:ed a P (.slice B M X) ao) (aA:ed a P (.slice C K V) an) (u: ∀k,P k->k<b) (ay:ea a b) (R:Bu a b l) (S:List UInt8) (az:eH (.mk 2 nm [y] ao an) i=S) (a5:l.length+S.length<=1000000000):
  Calls prog 174 #[.pointer (some ⟨b,0,none⟩), .agg #[.int .i64 2, .string (ak nm), .slice aK n c, .slice B M X, .slice C K V], .int .i64 (i:Int)] a λe w'=>e= .returned (.tuple #[])/\Bu w' b (l++S)/\FB b a w':=by
 have aI:=G (show nm++[32,61,32]++c_ y++[59]=S from by rw[<-az];rfl);have aO:nm.length+3+(c_ y).length+1=S.length:=by rw[<-aI.out];simp only[ac,ag,ai]
 clear az;have av:=ab.len;simp only[ag,ai]at av;obtain rfl:n=1:=av;obtain⟨b0,o,a0,aQ,F,H,am,al,aj,ah,af,ad,Z⟩:=ab.at_ 0 Qe;simp only[aF,aP,aY,bm,cP]at am al aj ah af ad Z;obtain⟨aU,aR,rfl,_⟩:=Z.form;have I:=G (aC am (aC al (aC aj (aC ah (aC af ad)))));have aT:=G Z;clear am al aj ah af ad Z;subst aQ;have d:=G (show PS b a.heap.size a P #[.int .i64 2, .string (ak nm), .slice (some ⟨b0,o,none⟩) 1 c, .slice B M X, .slice C K V] (.slice (some ⟨b0,o,none⟩) 1 c) (.slice B M X) (.slice C K V) (.mk 2 nm [y] ao an) l _ from⟨aq a 147 #[.int .i64 2, .string (ak nm), .slice (some ⟨b0,o,none⟩) 1 c, .slice B M X, .slice C K V],R.ext (aa a _),ab.keep (.of_ext (aa a _)) (λ_ A _=>A),aD.keep (.of_ext (aa a _)) (λ_ A _=>A),aA.keep (.of_ext (aa a _)) (λ_ A _=>A),aV (aa a _) (aH R.lt),ay.fb (aV (aa a _) (aH R.lt)),bU R.lt,by decide,u⟩);have ax:=d.out.box.cell;clear R ab ay aD aA;obtain⟨c1,ap⟩: ∃c,Hid (nm++[32,61,32]=c):=⟨_,G rfl⟩
 have au:c1.length=nm.length+3:=by rw[<-ap.out,ac];(try rfl)
 have aZ:ak nm++(⟨#[32,61,32]⟩:ByteArray)=ak c1:=by rw[<-ap.out];exact eq _ _
 have a3: ¬9223372036854775807<nm.length+3:=Qa
 have a6: ¬9223372036854775807<3+nm.length:=Qa
 have a1:(ak nm).size=nm.length:=a7 _;have a2:((⟨#[32,61,32]⟩:ByteArray)).size=3:=rfl;have aS:=G au;clear au;go_enter func174,ntmps174;go_wp2_with fail;refine aB 8 3 [] mixed Qb trivial ?_;repeat (refine sx ?_ (λaX w=> ?_) ?_;rotate_left;(focus have a8:=(d.out.ex w.un).box.cell;have e0:=((d.out.ex w.un).fb.keepP u).cell (o) H F|>.trans I.out.1;have bd:=((d.out.ex w.un).fb.keepP u).cell (o+1) H F|>.trans I.out.2.1;have bc:=((d.out.ex w.un).fb.keepP u).cell (o+2) H F|>.trans I.out.2.2.1;have bb:=((d.out.ex w.un).fb.keepP u).cell (o+3) H F|>.trans I.out.2.2.2.1;have ba:=((d.out.ex w.un).fb.keepP u).cell (o+4) H F|>.trans I.out.2.2.2.2.1;have a9:=((d.out.ex w.un).fb.keepP u).cell (o+5) H F|>.trans I.out.2.2.2.2.2;clear w;go_simp<;>with_reducible rfl);simp only[bA,bx,bw,br,bo])
 intro aW ar aN;clear aN;simp only[ae,aw];have J:=G (d.out.ex ar.un);clear ar ax d;have ax:=J.out.box.cell;have a4:=aO;go_wp2_with (go_at_call 216;refine(fl y aM c1 [59] P _ aU _ aR b l (aT.out.keep (J.out.fb.keepP u) (λ_ A _=>A)) u J.out.tab J.out.bu (by(try have bf:=aS.out);(try have be:=Hzc2.out);simp only[ac,ag,ai];omega)).mono ?_;rintro e u2 ⟨rfl,aG,aE⟩;have aJ:=G (J.out.wr aG aE);clear aG aE J)
 go_end0
 exact⟨rfl,by rw[<-aI.out];have:=aJ.out.bu;rw[<-ap.out]at this;simpa[aL]using this,aJ.out.fb⟩
theorem Hi (nm:List UInt8) (K J:List St) (P:Nat->Prop) (a:World) (F B C:Option Addr) (n c o A d y b i:Nat) (l:List UInt8) (I:dL a P (.slice F n c) []) (Z:ed a P (.slice B o A) K) (X:ed a P (.slice C d y) J) (ah: ∀k,P k->k<b) (R:ea a b) (w:Bu a b l) (S:List UInt8) (V:eH (.mk 6 nm [] K J) i=S) (al:l.length+S.length<=1000000000):
  Calls prog 174 #[.pointer (some ⟨b,0,none⟩), .agg #[.int .i64 6, .string (ak nm), .slice F n c, .slice B o A, .slice C d y], .int .i64 (i:Int)] a λe w'=>e= .returned (.tuple #[])/\Bu w' b (l++S)/\FB b a w':=by
 have M:=I.len;simp only[ai]at M;obtain rfl:n=0:=M;have ae:=G (show[114,101,116,117,114,110]++[59]=S from by rw[<-V];rfl);have aj:6+1=S.length:=by rw[<-ae.out];simp only[ac,ag,ai]
 clear V;have H:=G (show PS b a.heap.size a P #[.int .i64 6, .string (ak nm), .slice F 0 c, .slice B o A, .slice C d y] (.slice F 0 c) (.slice B o A) (.slice C d y) (.mk 6 nm [] K J) l _ from⟨aq a 147 #[.int .i64 6, .string (ak nm), .slice F 0 c, .slice B o A, .slice C d y],w.ext (aa a _),I.keep (.of_ext (aa a _)) (λ_ u _=>u),Z.keep (.of_ext (aa a _)) (λ_ u _=>u),X.keep (.of_ext (aa a _)) (λ_ u _=>u),aV (aa a _) (aH w.lt),R.fb (aV (aa a _) (aH w.lt)),bU w.lt,by decide,ah⟩);have am:=H.out.box.cell;clear w I R Z X;go_enter func174,ntmps174;go_wp2_with ((go_at_call 118;refine(cY b l [114,101,116,117,114,110,59] _ H.out.bu (by(try have ao:=Hzc1.out);(try have an:=Hzc2.out);(try simp only[ac,ag,ai]);omega)).mono ?_;rintro e u2 ⟨rfl,ad,ab⟩;have af:=G (H.out.wr ad ab);clear ad ab H))
 (try simp only[Exit.inBlock,Exit.then]);refine bodyPost_ret (results_none rfl _ _ _) rfl ?_
 exact⟨rfl,by rw[<-ae.out];have:=af.out.bu;simpa[aL]using this,af.out.fb⟩
theorem Hh (nm:List UInt8) (al aj:List St) (w:Ex) (az:pu w) (P:Nat->Prop) (a:World) (ay B C:Option Addr) (n c J R I M b i:Nat) (l:List UInt8) (X:dL a P (.slice ay n c) [w]) (ar:ed a P (.slice B J R) al) (ap:ed a P (.slice C I M) aj) (u: ∀k,P k->k<b) (an:ea a b) (K:Bu a b l) (S:List UInt8) (ao:eH (.mk 6 nm [w] al aj) i=S) (aI:l.length+S.length<=1000000000):
  Calls prog 174 #[.pointer (some ⟨b,0,none⟩), .agg #[.int .i64 6, .string (ak nm), .slice ay n c, .slice B J R, .slice C I M], .int .i64 (i:Int)] a λe w'=>e= .returned (.tuple #[])/\Bu w' b (l++S)/\FB b a w':=by
 have aw:=G (show[114,101,116,117,114,110]++[32]++c_ w++[59]=S from by rw[<-ao];rfl);have aG:6+1+(c_ w).length+1=S.length:=by rw[<-aw.out];simp only[ac,ag,ai]
 clear ao;have am:=X.len;simp only[ag,ai]at am;obtain rfl:n=1:=am;obtain⟨b0,o,a0,aA,A,F,ah,af,ae,ad,ab,Z,V⟩:=X.at_ 0 Qe;simp only[aF,aP,aY,bm,cP]at ah af ae ad ab Z V;obtain⟨aE,aB,rfl,_⟩:=V.form;have H:=G (aC ah (aC af (aC ae (aC ad (aC ab Z)))));have aD:=G V;clear ah af ae ad ab Z V;subst aA;have d:=G (show PS b a.heap.size a P #[.int .i64 6, .string (ak nm), .slice (some ⟨b0,o,none⟩) 1 c, .slice B J R, .slice C I M] (.slice (some ⟨b0,o,none⟩) 1 c) (.slice B J R) (.slice C I M) (.mk 6 nm [w] al aj) l _ from⟨aq a 147 #[.int .i64 6, .string (ak nm), .slice (some ⟨b0,o,none⟩) 1 c, .slice B J R, .slice C I M],K.ext (aa a _),X.keep (.of_ext (aa a _)) (λ_ y _=>y),ar.keep (.of_ext (aa a _)) (λ_ y _=>y),ap.keep (.of_ext (aa a _)) (λ_ y _=>y),aV (aa a _) (aH K.lt),an.fb (aV (aa a _) (aH K.lt)),bU K.lt,by decide,u⟩);have aJ:=d.out.box.cell;clear K X an ar ap;go_enter func174,ntmps174;have e0:=(d.out.fb.keepP u).cell (o) F A|>.trans H.out.1;have aQ:=(d.out.fb.keepP u).cell (o+1) F A|>.trans H.out.2.1;have aO:=(d.out.fb.keepP u).cell (o+2) F A|>.trans H.out.2.2.1;have aN:=(d.out.fb.keepP u).cell (o+3) F A|>.trans H.out.2.2.2.1;have aM:=(d.out.fb.keepP u).cell (o+4) F A|>.trans H.out.2.2.2.2.1;have aK:=(d.out.fb.keepP u).cell (o+5) F A|>.trans H.out.2.2.2.2.2;go_wp2_with (go_at_call 216;refine(fl w az [114,101,116,117,114,110,32] [59] P _ aE _ aB b l (aD.out.keep (d.out.fb.keepP u) (λ_ y _=>y)) u d.out.tab d.out.bu (by(try have aS:=Hzc1.out);(try have aR:=Hzc2.out);simp only[ac,ag,ai];omega)).mono ?_;rintro e u2 ⟨rfl,av,au⟩;have ax:=G (d.out.wr av au);clear av au d)
 go_end0
 exact⟨rfl,by rw[<-aw.out];have:=ax.out.bu;simpa[aL]using this,ax.out.fb⟩
theorem I1 (nm:List UInt8) (al aj:List St) (w:Ex) (az:pu w) (P:Nat->Prop) (a:World) (ay B C:Option Addr) (n c J R I M b i:Nat) (l:List UInt8) (X:dL a P (.slice ay n c) [w]) (ar:ed a P (.slice B J R) al) (ap:ed a P (.slice C I M) aj) (u: ∀k,P k->k<b) (an:ea a b) (K:Bu a b l) (S:List UInt8) (ao:eH (.mk 7 nm [w] al aj) i=S) (aI:l.length+S.length<=1000000000):
  Calls prog 174 #[.pointer (some ⟨b,0,none⟩), .agg #[.int .i64 7, .string (ak nm), .slice ay n c, .slice B J R, .slice C I M], .int .i64 (i:Int)] a λe w'=>e= .returned (.tuple #[])/\Bu w' b (l++S)/\FB b a w':=by
 have aw:=G (show c_ w++[59]=S from by rw[<-ao];rfl);have aG:(c_ w).length+1=S.length:=by rw[<-aw.out];simp only[ac,ag,ai]
 clear ao;have am:=X.len;simp only[ag,ai]at am;obtain rfl:n=1:=am;obtain⟨b0,o,a0,aA,A,F,ah,af,ae,ad,ab,Z,V⟩:=X.at_ 0 Qe;simp only[aF,aP,aY,bm,cP]at ah af ae ad ab Z V;obtain⟨aE,aB,rfl,_⟩:=V.form;have H:=G (aC ah (aC af (aC ae (aC ad (aC ab Z)))));have aD:=G V;clear ah af ae ad ab Z V;subst aA;have d:=G (show PS b a.heap.size a P #[.int .i64 7, .string (ak nm), .slice (some ⟨b0,o,none⟩) 1 c, .slice B J R, .slice C I M] (.slice (some ⟨b0,o,none⟩) 1 c) (.slice B J R) (.slice C I M) (.mk 7 nm [w] al aj) l _ from⟨aq a 147 #[.int .i64 7, .string (ak nm), .slice (some ⟨b0,o,none⟩) 1 c, .slice B J R, .slice C I M],K.ext (aa a _),X.keep (.of_ext (aa a _)) (λ_ y _=>y),ar.keep (.of_ext (aa a _)) (λ_ y _=>y),ap.keep (.of_ext (aa a _)) (λ_ y _=>y),aV (aa a _) (aH K.lt),an.fb (aV (aa a _) (aH K.lt)),bU K.lt,by decide,u⟩);have aJ:=d.out.box.cell;clear K X an ar ap;go_enter func174,ntmps174;have e0:=(d.out.fb.keepP u).cell (o) F A|>.trans H.out.1;have aQ:=(d.out.fb.keepP u).cell (o+1) F A|>.trans H.out.2.1;have aO:=(d.out.fb.keepP u).cell (o+2) F A|>.trans H.out.2.2.1;have aN:=(d.out.fb.keepP u).cell (o+3) F A|>.trans H.out.2.2.2.1;have aM:=(d.out.fb.keepP u).cell (o+4) F A|>.trans H.out.2.2.2.2.1;have aK:=(d.out.fb.keepP u).cell (o+5) F A|>.trans H.out.2.2.2.2.2;go_wp2_with (go_at_call 216;refine(fl w az [] [59] P _ aE _ aB b l (aD.out.keep (d.out.fb.keepP u) (λ_ y _=>y)) u d.out.tab d.out.bu (by(try have aS:=Hzc1.out);(try have aR:=Hzc2.out);simp only[ac,ag,ai];omega)).mono ?_;rintro e u2 ⟨rfl,av,au⟩;have ax:=G (d.out.wr av au);clear av au d)
 go_end0
 exact⟨rfl,by rw[<-aw.out];have:=ax.out.bu;simpa[aL]using this,ax.out.fb⟩
theorem I4 (nm:List UInt8) (aM aK:List St) (A z:Ex) (a5:pu A) (a4:pu z) (P:Nat->Prop) (d:World) (a3 B C:Option Addr) (n c Z am X al b i:Nat) (l:List UInt8) (ab:dL d P (.slice a3 n c) [A,z]) (aW:ed d P (.slice B Z am) aM) (aU:ed d P (.slice C X al) aK) (a: ∀k,P k->k<b) (aS:ea d b) (ad:Bu d b l) (S:List UInt8) (aT:eH (.mk 3 nm [A,z] aM aK) i=S) (bD:l.length+S.length<=1000000000):
  Calls prog 174 #[.pointer (some ⟨b,0,none⟩), .agg #[.int .i64 3, .string (ak nm), .slice a3 n c, .slice B Z am, .slice C X al], .int .i64 (i:Int)] d λe w'=>e= .returned (.tuple #[])/\Bu w' b (l++S)/\FB b d w':=by
 have a1:=G (show nm++[91]++c_ A++[93]++([32,61,32]++c_ z++[59])=S from by rw[<-aT];rfl);have bC:nm.length+1+(c_ A).length+1+(3+(c_ z).length+1)=S.length:=by rw[<-a1.out];simp only[ac,ag,ai]
 clear aT;have aR:=ab.len;simp only[ag,ai]at aR;obtain rfl:n=2:=aR;obtain⟨b0,o,a0,a9,I,K,aJ,aG,aD,az,ax,au,ap⟩:=ab.at_ 0 Qe;simp only[aF,aP,aY,bm,cP]at aJ aG aD az ax au ap;obtain⟨bl,bg,rfl,_⟩:=ap.form;subst a9;obtain⟨b1,bq,aX,af,H,J,aI,aE,aA,ay,av,ar,ao⟩:=ab.at_ 1 Qe;simp only[aF,aP,aY,bm,cP]at aI aE aA ay av ar ao;obtain⟨bk,bf,rfl,_⟩:=ao.form;injection af with af;injection af with af a8;subst af a8;have R:=G (aC aJ (aC aG (aC aD (aC az (aC ax au)))));have bj:=G ap;clear aJ aG aD az ax au ap;have M:=G (aC aI (aC aE (aC aA (aC ay (aC av ar)))));have bi:=G ao;clear aI aE aA ay av ar ao;have w:=G (show PS b d.heap.size d P #[.int .i64 3, .string (ak nm), .slice (some ⟨b0,o,none⟩) 2 c, .slice B Z am, .slice C X al] (.slice (some ⟨b0,o,none⟩) 2 c) (.slice B Z am) (.slice C X al) (.mk 3 nm [A,z] aM aK) l _ from⟨aq d 147 #[.int .i64 3, .string (ak nm), .slice (some ⟨b0,o,none⟩) 2 c, .slice B Z am, .slice C X al],ad.ext (aa d _),ab.keep (.of_ext (aa d _)) (λ_ y _=>y),aW.keep (.of_ext (aa d _)) (λ_ y _=>y),aU.keep (.of_ext (aa d _)) (λ_ y _=>y),aV (aa d _) (aH ad.lt),aS.fb (aV (aa d _) (aH ad.lt)),bU ad.lt,by decide,a⟩);have an:=w.out.box.cell;clear ad ab aS aW aU;obtain⟨c1,aN⟩: ∃c,Hid (nm++[91]=c):=⟨_,G rfl⟩
 have aQ:c1.length=nm.length+1:=by rw[<-aN.out,ac];(try rfl)
 have bt:ak nm++(⟨#[91]⟩:ByteArray)=ak c1:=by rw[<-aN.out];exact eq _ _
 have bB: ¬9223372036854775807<nm.length+1:=Qa
 have bE: ¬9223372036854775807<1+nm.length:=Qa
 have bv:(ak nm).size=nm.length:=a7 _;have bz:((⟨#[91]⟩:ByteArray)).size=1:=rfl;have aZ:=G aQ;clear aQ;go_enter func174,ntmps174;go_wp2_with fail;refine aB 8 3 [] mixed Qb trivial ?_;repeat (refine sx ?_ (λbp F=> ?_) ?_;rotate_left;(focus have bF:=(w.out.ex F.un).box.cell;have e0:=((w.out.ex F.un).fb.keepP a).cell (o) K I|>.trans R.out.1;have be:=((w.out.ex F.un).fb.keepP a).cell (o+1) K I|>.trans R.out.2.1;have bd:=((w.out.ex F.un).fb.keepP a).cell (o+2) K I|>.trans R.out.2.2.1;have bc:=((w.out.ex F.un).fb.keepP a).cell (o+3) K I|>.trans R.out.2.2.2.1;have bb:=((w.out.ex F.un).fb.keepP a).cell (o+4) K I|>.trans R.out.2.2.2.2.1;have ba:=((w.out.ex F.un).fb.keepP a).cell (o+5) K I|>.trans R.out.2.2.2.2.2;clear F;go_simp<;>with_reducible rfl);simp only[bA,bx,bw,br,bo])
 intro bn aO a6;clear a6;simp only[ae,aw];have V:=G (w.out.ex aO.un);clear aO an w;have an:=V.out.box.cell;go_wp2_with (first|(go_at_call 216;refine(fl A a5 c1 [93] P _ bl _ bg b l (bj.out.keep (V.out.fb.keepP a) (λ_ y _=>y)) a V.out.tab V.out.bu (by(try have aX:=aZ.out);(try have bh:=Hzc2.out);simp only[ac,ag,ai];omega)).mono ?_;rintro e u2 ⟨rfl,aj,ah⟩;have u:=G (V.out.wr aj ah);clear aj ah V;clear an;have an:=u.out.box.cell;have e0:=(u.out.fb.keepP a).cell (o+6) J H|>.trans M.out.1;have be:=(u.out.fb.keepP a).cell (o+6+1) J H|>.trans M.out.2.1;have bd:=(u.out.fb.keepP a).cell (o+6+2) J H|>.trans M.out.2.2.1;have bc:=(u.out.fb.keepP a).cell (o+6+3) J H|>.trans M.out.2.2.2.1;have bb:=(u.out.fb.keepP a).cell (o+6+4) J H|>.trans M.out.2.2.2.2.1;have ba:=(u.out.fb.keepP a).cell (o+6+5) J H|>.trans M.out.2.2.2.2.2)|(go_at_call 216;refine(fl z a4 [32,61,32] [59] P _ bk _ bf b (l++(c1++c_ A++[93])) (bi.out.keep (u.out.fb.keepP a) (λ_ y _=>y)) a u.out.tab u.out.bu (by(try have aX:=aZ.out);(try have bh:=Hzc2.out);simp only[ac,ag,ai];omega)).mono ?_;rintro e u3 ⟨rfl,aj,ah⟩;have a2:=G (u.out.wr aj ah);clear aj ah u))
 go_end0
 exact⟨rfl,by rw[<-a1.out];have:=a2.out.bu;rw[<-aN.out]at this;simpa[aL]using this,a2.out.fb⟩
theorem I2 (nm:List UInt8) (J ao:List St) (w:Ex) (aD:pu w) (ar:mr J) (P:Nat->Prop) (a:World) (aB B C:Option Addr) (n c A I R ab b i:Nat) (l:List UInt8) (ae:dL a P (.slice aB n c) [w]) (ay:ed a P (.slice B A I) J) (ax:ed a P (.slice C R ab) ao) (o: ∀k,P k->k<b) (av:ea a b) (V:Bu a b l) (S:List UInt8) (aw:eH (.mk 5 nm [w] J ao) i=S) (aO:l.length+S.length<=1000000000):
  Calls prog 174 #[.pointer (some ⟨b,0,none⟩), .agg #[.int .i64 5, .string (ak nm), .slice aB n c, .slice B A I, .slice C R ab], .int .i64 (i:Int)] a λe w'=>e= .returned (.tuple #[])/\Bu w' b (l++S)/\FB b a w':=by
 have az:=G (show[119,104,105,108,101,32]++c_ w++[32]++f_ i (ch J (i+1))=S from by rw[<-aw];rfl);have aN:6+(c_ w).length+1+(f_ i (ch J (i+1))).length=S.length:=by rw[<-az.out];simp only[ac,ag,ai]
 clear aw;have ap:=ae.len;simp only[ag,ai]at ap;obtain rfl:n=1:=ap;obtain⟨b0,u,a0,aE,F,H,an,am,al,aj,ah,af,ad⟩:=ae.at_ 0 Qe;simp only[aF,aP,aY,bm,cP]at an am al aj ah af ad;obtain⟨aM,aG,rfl,_⟩:=ad.form;have K:=G (aC an (aC am (aC al (aC aj (aC ah af)))));have aK:=G ad;clear an am al aj ah af ad;subst aE;have d:=G (show PS b a.heap.size a P #[.int .i64 5, .string (ak nm), .slice (some ⟨b0,u,none⟩) 1 c, .slice B A I, .slice C R ab] (.slice (some ⟨b0,u,none⟩) 1 c) (.slice B A I) (.slice C R ab) (.mk 5 nm [w] J ao) l _ from⟨aq a 147 #[.int .i64 5, .string (ak nm), .slice (some ⟨b0,u,none⟩) 1 c, .slice B A I, .slice C R ab],V.ext (aa a _),ae.keep (.of_ext (aa a _)) (λ_ y _=>y),ay.keep (.of_ext (aa a _)) (λ_ y _=>y),ax.keep (.of_ext (aa a _)) (λ_ y _=>y),aV (aa a _) (aH V.lt),av.fb (aV (aa a _) (aH V.lt)),bU V.lt,by decide,o⟩);have au:=d.out.box.cell;clear V ae av ay ax;unfold mr at ar;go_enter func174,ntmps174;have e0:=(d.out.fb.keepP o).cell (u) H F|>.trans K.out.1;have aU:=(d.out.fb.keepP o).cell (u+1) H F|>.trans K.out.2.1;have aT:=(d.out.fb.keepP o).cell (u+2) H F|>.trans K.out.2.2.1;have aS:=(d.out.fb.keepP o).cell (u+3) H F|>.trans K.out.2.2.2.1;have aR:=(d.out.fb.keepP o).cell (u+4) H F|>.trans K.out.2.2.2.2.1;have aQ:=(d.out.fb.keepP o).cell (u+5) H F|>.trans K.out.2.2.2.2.2;go_wp2_with (first|(go_at_call 216;refine(fl w aD [119,104,105,108,101,32] [32] P _ aM _ aG b l (aK.out.keep (d.out.fb.keepP o) (λ_ y _=>y)) o d.out.tab d.out.bu (by(try have aJ:=Hzc1.out);(try have aI:=Hzc2.out);simp only[ac,ag,ai];omega)).mono ?_;rintro e u1 ⟨rfl,Z,X⟩;have M:=G (d.out.wr Z X);clear Z X d;clear au;have au:=M.out.box.cell)|(go_at_call 121;refine(ar P _ B A I b i (l++([119,104,105,108,101,32]++c_ w++[32])) M.out.rb o M.out.tab M.out.bu (by(try have aJ:=Hzc1.out);(try have aI:=Hzc2.out);simp only[ac,ag,ai];omega)).mono ?_;rintro e u2 ⟨rfl,Z,X⟩;have aA:=G (M.out.wr Z X);clear Z X M))
 go_end0
 exact⟨rfl,by rw[<-az.out];have:=aA.out.bu;simpa[aL]using this,aA.out.fb⟩
theorem I3 (nm:List UInt8) (J I:List St) (xs:List Ex) (K:wY (.mk 4 nm xs J I)) (P:Nat->Prop) (a:World) (A B C:Option Addr) (n c u y o w b i:Nat) (l:List UInt8) (Z:dL a P (.slice A n c) xs) (X:ed a P (.slice B u y) J) (V:ed a P (.slice C o w) I) (ab: ∀k,P k->k<b) (M:ea a b) (H:Bu a b l) (S:List UInt8) (R:eH (.mk 4 nm xs J I) i=S) (af:l.length+S.length<=1000000000):
  Calls prog 174 #[.pointer (some ⟨b,0,none⟩), .agg #[.int .i64 4, .string (ak nm), .slice A n c, .slice B u y, .slice C o w], .int .i64 (i:Int)] a λe w'=>e= .returned (.tuple #[])/\Bu w' b (l++S)/\FB b a w':=by
 unfold wY at K;have d:=G (show PS b a.heap.size a P #[.int .i64 4, .string (ak nm), .slice A n c, .slice B u y, .slice C o w] (.slice A n c) (.slice B u y) (.slice C o w) (.mk 4 nm xs J I) l _ from⟨aq a 147 #[.int .i64 4, .string (ak nm), .slice A n c, .slice B u y, .slice C o w],H.ext (aa a _),Z.keep (.of_ext (aa a _)) (λ_ F _=>F),X.keep (.of_ext (aa a _)) (λ_ F _=>F),V.keep (.of_ext (aa a _)) (λ_ F _=>F),aV (aa a _) (aH H.lt),M.fb (aV (aa a _) (aH H.lt)),bU H.lt,by decide,ab⟩);have ag:=d.out.box.cell;clear H Z M X V;go_enter func174,ntmps174;go_wp2_with (go_at_call 217;refine(K P _ A B C n c u y o w b i l d.out.re d.out.rb d.out.rl ab d.out.tab d.out.bu (by rw[R];exact af)).mono ?_;rintro e u1 ⟨rfl,ad,ac⟩;have ae:=G (d.out.wr ad ac);clear ad ac d)
 go_end0
 exact⟨rfl,by rw[<-R];exact ae.out.bu,ae.out.fb⟩
end
end Go.Proofs.YtoedmpgicdekmaaGreatDoor
