/- Parts of the proof. -/
import Derived.Test.YtddomeddabfinaaGreatDoorTt00
import Derived.Lib.AppendIntMem
import Derived.Test.YtddomeddabfinaaGreatDoorTt11
import Derived.Test.YtddomeddabfinaaGreatDoorTt12
import Derived.Test.YtddomeddabfinaaGreatDoorTt13
set_option maxRecDepth 100000
set_option maxHeartbeats 8000000
set_option linter.unusedVariables false
set_option linter.unusedSimpArgs false
set_option linter.unusedSectionVars false
namespace Go.Proofs.YtddomeddabfinaaGreatDoor
open IntKind(i64)
open Go.Proofs.Tryz
section
open Go.RowKit
def dS (sep:List UInt8):List (List UInt8)->List UInt8
 | []=>[]
 |x::r=>x++r.flatMap (λy=>sep++y)
theorem vS (a:List UInt8) (l:List (List UInt8)) (x:List UInt8):dS a (l++[x])=dS a l++((if l=[]then[]else a)++x):=by
 cases l with
 |nil=>simp[dS]
 |cons y r=>simp[dS]
def mx (b:Bool) (s:List UInt8):List UInt8:=if b then 40::(s++[41])else s
def j_ (k:Int) (op nm tx:List UInt8) (v:Int) (ps:List Int) (ss:List (List UInt8)):List UInt8:=
 if k=1 then fZ v.toNat
 else if k=2 then f_ tx
 else if k=3 then nm
 else if k=4 then nm++[91]++ss.headD []++[93]
 else if k=5 then nm++[40]++dS [44,32] ss++[41]
 else if k=6 then op++mx (decide (ps.headD 0<7)) (ss.headD [])
 else if k=7 then mx (decide (ps.headD 0<im op)) (ss.headD [])++([32]++op++[32])++mx (decide (ps.tail.headD 0<=im op)) (ss.tail.headD [])
 else[]
mutual
def b_:Ex->List UInt8| .mk k op nm tx v a=>j_ k op nm tx v (a.map Ex.prec) (eX a)
def eX:List Ex->List (List UInt8)| []=>[]|x::r=>b_ x::eX r
end
theorem nk: ∀l,eX l=l.map b_
 | []=>rfl
 |x::r=>by rw[eX,nk r];rfl
theorem Bx: ∀n,Lib.decDigits n=fZ n:=λn=>by
 induction n using Nat.strongRecOn with
 | _ n ih=>
  rw[Lib.decDigits,fZ];split
  ·rfl
  ·rw[ih (n/10) Qa]
theorem vg (l:List UInt8):(f_ l).length<=2*l.length+2:=by
 have:=(jg l).2;simp only[f_,ah,ac,ai];omega
theorem ug {v:Int} (a:v<=2147483647):(fZ v.toNat).length<=10:=mc 9 v.toNat Qa
theorem o_ (b:Bool) (s:List UInt8):(mx b s).length<=s.length+2:=by
 cases b<;>simp[mx]
theorem rk (a:List UInt8): ∀l:List (List UInt8),(dS a l).length<=(l.map λs=>s.length+a.length).sum
 | []=>by simp[dS]
 |x::r=>by
  have:(r.flatMap λy=>a++y).length=(r.map λs=>s.length+a.length).sum:=by
   rw[i']
   congr 1
   apply List.map_congr_left;intro y _;simp;omega
  simp only[dS,ac,bF,eq,this];omega
theorem fH {P:Nat->Prop} {o b c:World} (a:cR P o b) (k:cR P b c):cR P o c:=⟨aR a.1 k.1,λx j h=>(k.2 x j (aF h a.1)).trans (a.2 x j h)⟩
def dP (w:World) (b:Nat):Prop:=Lib.TabIs prog w "internal/strconv.uint64pow10" .u64 Lib.pow10Tab/\2<b
theorem dP.fb {j w':World} {b:Nat} (h:dP j b) (z:FB b j w'):dP w' b:=by
 refine⟨?_,h.2⟩;have a:=h.1;have o:prog.globalNamed "internal/strconv.uint64pow10" =some 2:=Qb
 have w:=z.below.block _ h.2;unfold Lib.TabIs World.var? at a⊢;rw[o]at a⊢;simp only[gn]at a⊢;rw[w];exact a
theorem tV (n:Int) (w:0<=n) (o:n<=9223372036854775807) (a:World) (b:Nat) (j:dP a b):Calls prog 92 #[.int i64 n] a λe w'=>e=.returned (.string (J (fZ n.toNat)))/\az a w':=by
 refine(Tryz.strconv_Itoa n Qa o a j.1).mono ?_;rintro e w' ⟨rfl,k,h,rfl⟩;have:Lib.itoa n=fZ n.toNat:=by unfold Lib.itoa;rw[if_neg Qa,Bx]
 rw[this];exact⟨rfl,Lib.below_grow _ a (ak _) k h⟩
structure PC (b px:Nat) (w0:World) (P:Nat->Prop) (t:TypeId) (cs:Array Value) (v:Value) (xs:List Ex) (l:List UInt8) (W:World):Prop where
 box:aU W px t cs
 bu:Bu W b l
 rd:c7 W P v xs
 fb:FB b w0 W
 tab:dP W b
 ne:px≠b
 tt:t≠5
 hP: ∀k,P k->k<b
section
variable {b px:Nat} {w0 W W':World} {P:Nat->Prop} {t:TypeId} {cs:Array Value} {v:Value} {xs:List Ex} {l l':List UInt8}
theorem PC.wr (a:PC b px w0 P t cs v xs l W) (o:Bu W' b l') (h:FB b W W'):PC b px w0 P t cs v xs l' W':=
 ⟨h.keep _ _ _ a.ne a.tt a.box,o,a.rd.keep (h.keepP a.hP) (λ_ j _=>j),a.fb.trans h,a.tab.fb h,a.ne,a.tt,a.hP⟩
theorem PC.ex (a:PC b px w0 P t cs v xs l W) (h:az W W'):PC b px w0 P t cs v xs l W':=a.wr (a.bu.ext h) (be h (aM a.bu.lt))
end
theorem nA {b:Nat} {h w':World} (a:FB b h.drew w'):FB b h w':=⟨⟨a.below.os,a.below.tape,a.below.output,a.below.size,a.below.block⟩,a.keep⟩
section
variable {P:Program} {ops:Array Oper} {Q:Exit->Act->World->Prop}
theorem jb {id:Nat} {a:Act} {o:World} (b m f:Nat) (l:List xC) (x:Nat) (O:P.follows .mixedOrders=true) (M:E_ ops m a.tmps.size=true) (R:b<=o.heap.size)
  (K:jN az l) (G:mL x (λa c=>b<=a.heap.size->FB b a c) l)
  (j:eL P Q ops f (eW l) (some x) (λ_=>false) az (λa c=>b<=a.heap.size->FB b a c) o.drew (λa A=> ∀w',FB b o w'->(∀p∈A,p.2 w')->wpList P ops Q (ops.toList.drop m) a w') (ops.toList.take m) 0 a []):(Code.region id ops true).wp P Q a o:=by
 refine fC m f (eW l) (some x) az (λa c=>b<=a.heap.size->FB b a c) O M aS (λa c d w z ha=>(w ha).trans (z (aR ha (w ha).below.size))) (λa c j ha=>be j ha) (λ_ _ _=>oB) K.out G.out ?_;refine eL.fin (λa A j w' w z=>j w' ?_ z) _ _ _ _ j;have h:=w R;exact⟨⟨h.below.os,h.below.tape,h.below.output,h.below.size,h.below.block⟩,h.keep⟩
end
def oP (x:Ex):Prop:= ∀(P:Nat->Prop) (w:World) (A:Option Addr) (n c b:Nat) (l:List UInt8),c7 w P (.slice A n c) x.args->(∀k,P k->k<b)->dP w b->Bu w b l->l.length+(b_ x).length<=1000000000->
 Calls prog 201 #[.pointer (some ⟨b,0,none⟩),.agg #[.int i64 x.k,.string (J x.op),.string (J x.nm),.string (J x.tx),.int i64 x.v,.slice A n c]] w λe w'=>e=.returned (.tuple #[])/\Bu w' b (l++b_ x)/\FB b w w'
theorem sm (x:Ex) (I:oP x) (M:Bool) (P:Nat->Prop) (a:World) (z:Option Addr) (n c b:Nat) (l:List UInt8) (ae:c7 a P (.slice z n c) x.args) (V: ∀k,P k->k<b) (ad:dP a b) (K:Bu a b l) (R:l.length+(mx M (b_ x)).length<=1000000000):
  Calls prog 216 #[.pointer (some ⟨b,0,none⟩),.agg #[.int i64 x.k,.string (J x.op),.string (J x.nm),.string (J x.tx),.int i64 x.v,.slice z n c],.bool M] a λe w'=>e=.returned (.tuple #[])/\Bu w' b (l++mx M (b_ x))/\FB b a w':=by
 have X:=O I;clear I;unfold oP at X;generalize b_ x=S at*;generalize aj:x.args=xs at*;generalize x.k=k at*;generalize x.op=op at*;generalize x.nm=nm at*;generalize x.tx=tx at*;generalize x.v=v at*;have w:=O (show PC b a.heap.size a P 70 #[.int i64 k,.string (J op),.string (J nm),.string (J tx),.int i64 v,.slice z n c] (.slice z n c) xs l _ from⟨aw a 70 #[.int i64 k,.string (J op),.string (J nm),.string (J tx),.int i64 v,.slice z n c],K.ext (Z a _),ae.keep (.of_ext (Z a _)) (λ_ ag _=>ag),be (Z a _) (aM K.lt),ad.fb (be (Z a _) (aM K.lt)),bP K.lt,by decide,V⟩);have ab:=w.out.box.cell;clear K ae ad
 cases M with
 |true=>
  have R:l.length+(S.length+2)<=1000000000:=by simpa[mx]using R
  go_enter func216,ntmps216;go_wp2_with (first|(go_at_call 91;refine(cV b l [40] _ w.out.bu (by simp only[ah,ai];omega)).mono ?_;rintro e u1 ⟨rfl,o,j⟩;have G:=O (w.out.wr o j);clear o j w;clear ab;have ab:=G.out.box.cell)|(go_at_call 201;refine(X.out P _ z n c b (l++[40]) G.out.rd V G.out.tab G.out.bu (by simp only[ac,ah,ai];omega)).mono ?_;rintro e u2 ⟨rfl,o,j⟩;have A:=O (G.out.wr o j);clear o j G)|(go_at_call 91;refine(cV b (l++[40]++S) [41] _ A.out.bu (by simp only[ac,ah,ai];omega)).mono ?_;rintro e u3 ⟨rfl,o,j⟩;have af:=O (A.out.wr o j);clear o j A))
  go_end0
  exact⟨rfl,by have:=af.out.bu;simpa[mx,aq]using this,af.out.fb⟩
 |false=>
  have R:l.length+S.length<=1000000000:=R;go_enter func216,ntmps216;go_wp2_with (go_at_call 201;refine(X.out P _ z n c b l w.out.rd V w.out.tab w.out.bu Qa).mono ?_;rintro e u2 ⟨rfl,o,j⟩;have A:=O (w.out.wr o j);clear o j w)
  go_end0
  exact⟨rfl,A.out.bu,A.out.fb⟩
theorem Ho (op nm tx:List UInt8) (v:Int) (xs:List Ex) (an:0<=v) (K:v<=2147483647) (P:Nat->Prop) (a:World) (z:Option Addr) (n c b:Nat) (l:List UInt8) (I:c7 a P (.slice z n c) xs) (aj: ∀k,P k->k<b) (V:dP a b) (w:Bu a b l) (S:List UInt8) (X:b_ (.mk 1 op nm tx v xs)=S) (ay:l.length+S.length<=1000000000):
  Calls prog 201 #[.pointer (some ⟨b,0,none⟩),.agg #[.int i64 1,.string (J op),.string (J nm),.string (J tx),.int i64 v,.slice z n c]] a λe w'=>e=.returned (.tuple #[])/\Bu w' b (l++S)/\FB b a w':=by
 have ac:=O (show fZ v.toNat=S from by rw[<-X];rfl);have ax:(fZ v.toNat).length=S.length:=by rw[ac.out]
 clear X;have o:=O (show PC b a.heap.size a P 70 #[.int i64 1,.string (J op),.string (J nm),.string (J tx),.int i64 v,.slice z n c] (.slice z n c) xs l _ from⟨aw a 70 #[.int i64 1,.string (J op),.string (J nm),.string (J tx),.int i64 v,.slice z n c],w.ext (Z a _),I.keep (.of_ext (Z a _)) (λ_ ah _=>ah),be (Z a _) (aM w.lt),V.fb (be (Z a _) (aM w.lt)),bP w.lt,by decide,aj⟩);have R:=o.out.box.cell;clear w I V;have aq:=O (λa ao=>tV v an Qa a b ao);generalize fZ v.toNat=D at*;go_enter func201,ntmps201;go_wp2_with fail;refine aB 6 3 [(5,λx=>x=.string (J D),λ_ _=>True)] mixed Qb ⟨λ_ _ _ _ _=>trivial,trivial⟩ ?_;repeat (refine sx ?_ (λag j=> ?_) ?_;rotate_left;(focus have ap:=(o.out.ex j.un).box.cell;clear j;go_simp<;>with_reducible rfl);simp only[a8,a7,a6,aZ,aY])
 refine so (λaf j G az ak=> ?_) ?_
 ·have ai:=(o.out.ex j.un).tab;clear G j;go_simp;refine(aq.out af ai).mono ?_;rintro e av ⟨rfl,al⟩;exact ak _ _ al rfl trivial
 rintro _ rfl;simp only[a8,a7,a6,aZ,aY];repeat (refine sx ?_ (λag j=> ?_) ?_;rotate_left;(focus have ap:=(o.out.ex j.un).box.cell;clear j;go_simp<;>with_reducible rfl);simp only[a8,a7,a6,aZ,aY])
 intro ar M G;clear G;simp only[ae,au];have A:=O (o.out.ex M.un);clear M R o;have R:=A.out.box.cell;go_wp2_with ((go_at_call 91;refine(cV b l D _ A.out.bu Qa).mono ?_;rintro e u2 ⟨rfl,K,ab⟩;have ad:=O (A.out.wr K ab);clear K ab A))
 go_end0
 exact⟨rfl,by rw[<-ac.out];have:=ad.out.bu;exact this,ad.out.fb⟩
theorem Hn (op nm tx:List UInt8) (v:Int) (xs:List Ex) (ax:tx.length<=128) (P:Nat->Prop) (a:World) (z:Option Addr) (n c b:Nat) (l:List UInt8) (X:c7 a P (.slice z n c) xs) (ai: ∀k,P k->k<b) (R:dP a b) (w:Bu a b l) (S:List UInt8) (V:b_ (.mk 2 op nm tx v xs)=S) (ar:l.length+S.length<=1000000000):
  Calls prog 201 #[.pointer (some ⟨b,0,none⟩),.agg #[.int i64 2,.string (J op),.string (J nm),.string (J tx),.int i64 v,.slice z n c]] a λe w'=>e=.returned (.tuple #[])/\Bu w' b (l++S)/\FB b a w':=by
 have ac:=O (show f_ tx=S from by rw[<-V];rfl);have aq:(f_ tx).length=S.length:=by rw[ac.out]
 clear V;have o:=O (show PC b a.heap.size a P 70 #[.int i64 2,.string (J op),.string (J nm),.string (J tx),.int i64 v,.slice z n c] (.slice z n c) xs l _ from⟨aw a 70 #[.int i64 2,.string (J op),.string (J nm),.string (J tx),.int i64 v,.slice z n c],w.ext (Z a _),X.keep (.of_ext (Z a _)) (λ_ ah _=>ah),be (Z a _) (aM w.lt),R.fb (be (Z a _) (aM w.lt)),bP w.lt,by decide,ai⟩);have M:=o.out.box.cell;clear w X R;have an:=O (λa=>yi tx Qa a);generalize f_ tx=D at*;go_enter func201,ntmps201;go_wp2_with fail;refine aB 6 3 [(5,λx=>x=.string (J D),λ_ _=>True)] mixed Qb ⟨λ_ _ _ _ _=>trivial,trivial⟩ ?_;repeat (refine sx ?_ (λag j=> ?_) ?_;rotate_left;(focus have al:=(o.out.ex j.un).box.cell;clear j;go_simp<;>with_reducible rfl);simp only[a8,a7,a6,aZ,aY])
 refine so (λaf j G ay aj=> ?_) ?_
 ·have av:=(o.out.ex j.un).tab;clear G j;go_simp;refine(an.out af).mono ?_;rintro e ap ⟨rfl,ak⟩;exact aj _ _ ak rfl trivial
 rintro _ rfl;simp only[a8,a7,a6,aZ,aY];repeat (refine sx ?_ (λag j=> ?_) ?_;rotate_left;(focus have al:=(o.out.ex j.un).box.cell;clear j;go_simp<;>with_reducible rfl);simp only[a8,a7,a6,aZ,aY])
 intro ao K G;clear G;simp only[ae,au];have A:=O (o.out.ex K.un);clear K M o;have M:=A.out.box.cell;go_wp2_with ((go_at_call 91;refine(cV b l D _ A.out.bu Qa).mono ?_;rintro e u2 ⟨rfl,ab,I⟩;have ad:=O (A.out.wr ab I);clear ab I A))
 go_end0
 exact⟨rfl,by rw[<-ac.out];have:=ad.out.bu;exact this,ad.out.fb⟩
theorem Hm (op nm tx:List UInt8) (v:Int) (xs:List Ex) (P:Nat->Prop) (a:World) (o:Option Addr) (n c b:Nat) (l:List UInt8) (V:c7 a P (.slice o n c) xs) (ag: ∀k,P k->k<b) (M:dP a b) (j:Bu a b l) (S:List UInt8) (R:b_ (.mk 3 op nm tx v xs)=S) (ak:l.length+S.length<=1000000000):
  Calls prog 201 #[.pointer (some ⟨b,0,none⟩),.agg #[.int i64 3,.string (J op),.string (J nm),.string (J tx),.int i64 v,.slice o n c]] a λe w'=>e=.returned (.tuple #[])/\Bu w' b (l++S)/\FB b a w':=by
 have ab:=O (show nm=S from by rw[<-R];rfl);have aj:nm.length=S.length:=by rw[ab.out]
 clear R;have z:=O (show PC b a.heap.size a P 70 #[.int i64 3,.string (J op),.string (J nm),.string (J tx),.int i64 v,.slice o n c] (.slice o n c) xs l _ from⟨aw a 70 #[.int i64 3,.string (J op),.string (J nm),.string (J tx),.int i64 v,.slice o n c],j.ext (Z a _),V.keep (.of_ext (Z a _)) (λ_ af _=>af),be (Z a _) (aM j.lt),M.fb (be (Z a _) (aM j.lt)),bP j.lt,by decide,ag⟩);have G:=z.out.box.cell;clear j V M;go_enter func201,ntmps201;go_wp2_with fail;refine aB 5 3 [] mixed Qb trivial ?_;repeat (refine sx ?_ (λai K=> ?_) ?_;rotate_left;(focus have al:=(z.out.ex K.un).box.cell;clear K;go_simp<;>with_reducible rfl);simp only[a8,a7,a6,aZ,aY])
 intro ah A ad;clear ad;simp only[ae,au];have w:=O (z.out.ex A.un);clear A G z;have G:=w.out.box.cell;go_wp2_with ((go_at_call 91;refine(cV b l nm _ w.out.bu Qa).mono ?_;rintro e u2 ⟨rfl,I,X⟩;have ac:=O (w.out.wr I X);clear I X w))
 go_end0
 exact⟨rfl,by rw[<-ab.out];have:=ac.out.bu;exact this,ac.out.fb⟩
theorem Hl (op nm tx:List UInt8) (v:Int) (y:Ex) (az:oP y) (P:Nat->Prop) (a:World) (X:Option Addr) (n c b:Nat) (l:List UInt8) (ad:c7 a P (.slice X n c) [y]) (o: ∀k,P k->k<b) (aD:dP a b) (R:Bu a b l) (S:List UInt8) (aF:b_ (.mk 4 op nm tx v [y])=S) (bc:l.length+S.length<=1000000000):
  Calls prog 201 #[.pointer (some ⟨b,0,none⟩),.agg #[.int i64 4,.string (J op),.string (J nm),.string (J tx),.int i64 v,.slice X n c]] a λe w'=>e=.returned (.tuple #[])/\Bu w' b (l++S)/\FB b a w':=by
 have aA:=ad.len;have aG:=O az;unfold oP at aG;have aH:=O (show nm++[91]++b_ y++[93]=S from by rw[<-aF];rfl);have bb:nm.length+1+(b_ y).length+1=S.length:=by rw[<-aH.out];simp only[ac,ah,ai]
 clear aF az;simp only[ah,ai]at aA;obtain rfl:n=1:=aA;obtain⟨bg,A,a0,aL,G,K,ap,ao,an,al,ak,aj,ab⟩:=ad.at_ 0 Qd;simp only[aK,aV,bp,bE,cL]at ap ao an al ak aj ab;obtain⟨aX,aT,rfl,_⟩:=ab.form;have M:=O (aE ap (aE ao (aE an (aE al (aE ak aj)))));have aW:=O ab;clear ap ao an al ak aj ab;have ag:=O (show PC b a.heap.size a P 70 #[.int i64 4,.string (J op),.string (J nm),.string (J tx),.int i64 v,.slice X 1 c] (.slice X 1 c) [y] l _ from⟨aw a 70 #[.int i64 4,.string (J op),.string (J nm),.string (J tx),.int i64 v,.slice X 1 c],R.ext (Z a _),ad.keep (.of_ext (Z a _)) (λ_ ar _=>ar),be (Z a _) (aM R.lt),aD.fb (be (Z a _) (aM R.lt)),bP R.lt,by decide,o⟩);have I:=ag.out.box.cell;clear R ad aD;obtain⟨V,av⟩: ∃c,Hid (nm++[91]=c):=⟨_,O rfl⟩
 have a3:V.length=nm.length+1:=by rw[<-av.out,ac];rfl
 have a4:J nm++(⟨#[91]⟩:ByteArray)=J V:=by rw[<-av.out];exact eh _ _
 have ba: ¬9223372036854775807<nm.length+1:=Qa
 have bd: ¬9223372036854775807<1+nm.length:=Qa
 have a5:(J nm).size=nm.length:=bm _;have a9:((⟨#[91]⟩:ByteArray)).size=1:=rfl;subst aL;generalize b_ y=aU at*;go_enter func201,ntmps201;go_wp2_with fail;refine aB 6 3 [] mixed Qb trivial ?_;repeat (refine sx ?_ (λa2 aC=> ?_) ?_;rotate_left;(focus have bf:=(ag.out.ex aC.un).box.cell;clear aC;go_simp<;>with_reducible rfl);simp only[a8,a7,a6,aZ,aY])
 intro a1 ay aJ;clear aJ;simp only[ae,au];have af:=O (ag.out.ex ay.un);clear ay I ag;have I:=af.out.box.cell;go_wp2_with (first|(go_at_call 91;refine(cV b l V _ af.out.bu Qa).mono ?_;rintro e u2 ⟨rfl,z,w⟩;have j:=O (af.out.wr z w);clear z w af;clear I;have I:=j.out.box.cell;have aS:=(j.out.fb.keepP o).cell (A) K G|>.trans M.out.1;have aR:=(j.out.fb.keepP o).cell (A+1) K G|>.trans M.out.2.1;have aQ:=(j.out.fb.keepP o).cell (A+2) K G|>.trans M.out.2.2.1;have aP:=(j.out.fb.keepP o).cell (A+3) K G|>.trans M.out.2.2.2.1;have aO:=(j.out.fb.keepP o).cell (A+4) K G|>.trans M.out.2.2.2.2.1;have aN:=(j.out.fb.keepP o).cell (A+5) K G|>.trans M.out.2.2.2.2.2)|(go_at_call 201;refine(aG.out P _ aX _ aT b (l++V) (aW.out.keep (j.out.fb.keepP o) (λ_ ar _=>ar)) o j.out.tab j.out.bu (by simp only[ac];omega)).mono ?_;rintro e u3 ⟨rfl,z,w⟩;have ax:=O (j.out.wr z w);clear z w j;clear aS aR aQ aP aO aN)|(go_at_call 91;refine(cV b (l++V++aU) [93] _ ax.out.bu (by simp only[ac,ah,ai];omega)).mono ?_;rintro e u4 ⟨rfl,z,w⟩;have aI:=O (ax.out.wr z w);clear z w ax))
 go_end0
 exact⟨rfl,by rw[<-aH.out];have:=aI.out.bu;rw[<-av.out]at this;simpa[aq]using this,aI.out.fb⟩
theorem Hk (op nm tx:List UInt8) (v:Int) (xs:List Ex) (aE: ∀y,y∈xs->oP y) (bL:xs.length<=4) (P:Nat->Prop) (w:World) (V:Option Addr) (n c b:Nat) (l:List UInt8) (ax:c7 w P (.slice V n c) xs) (ao: ∀k,P k->k<b) (aK:dP w b) (ad:Bu w b l) (S:List UInt8) (aL:b_ (.mk 5 op nm tx v xs)=S) (bB:l.length+S.length<=1000000000):
  Calls prog 201 #[.pointer (some ⟨b,0,none⟩),.agg #[.int i64 5,.string (J op),.string (J nm),.string (J tx),.int i64 v,.slice V n c]] w λe w'=>e=.returned (.tuple #[])/\Bu w' b (l++S)/\FB b w w':=by
 have aG:=ax.len;have bg:=O aE;have aP:=O (show nm++[40]++dS [44,32] (eX xs)++[41]=S from by rw[<-aL];rfl);have bA:nm.length+1+(dS [44,32] (eX xs)).length+1=S.length:=by rw[<-aP.out];simp only[ac,ah,ai]
 have aS:=O aG;have bx:(n:Int)<=4:=Qa
 clear aL aE aG;have ap:=O (show PC b w.heap.size w P 70 #[.int i64 5,.string (J op),.string (J nm),.string (J tx),.int i64 v,.slice V n c] (.slice V n c) xs l _ from⟨aw w 70 #[.int i64 5,.string (J op),.string (J nm),.string (J tx),.int i64 v,.slice V n c],ad.ext (Z w _),ax.keep (.of_ext (Z w _)) (λ_ I _=>I),be (Z w _) (aM ad.lt),aK.fb (be (Z w _) (aM ad.lt)),bP ad.lt,by decide,ao⟩);have X:=ap.out.box.cell;clear ad ax aK;obtain⟨K,az⟩: ∃c,Hid (nm++[40]=c):=⟨_,O rfl⟩
 have bo:K.length=nm.length+1:=by rw[<-az.out,ac];rfl
 have bt:J nm++(⟨#[40]⟩:ByteArray)=J K:=by rw[<-az.out];exact eh _ _
 have bz: ¬9223372036854775807<nm.length+1:=Qa
 have bD: ¬9223372036854775807<1+nm.length:=Qa
 have bv:(J nm).size=nm.length:=bm _;have bw:((⟨#[40]⟩:ByteArray)).size=1:=rfl;go_enter func201,ntmps201;go_wp2_with fail;refine aB 6 3 [] mixed Qb trivial ?_;repeat (refine sx ?_ (λbk aJ=> ?_) ?_;rotate_left;(focus have bM:=(ap.out.ex aJ.un).box.cell;clear aJ;go_simp<;>with_reducible rfl);simp only[a8,a7,a6,aZ,aY])
 intro bj aD aW;clear aW;simp only[ae,au];have A:=O (ap.out.ex aD.un);clear aD X ap;have X:=A.out.box.cell;go_wp2_with ((go_at_call 91;refine(cV b l K _ A.out.bu Qa).mono ?_;rintro e u2 ⟨rfl,z,o⟩;have M:=O (A.out.wr z o);clear z o A;clear X;have X:=M.out.box.cell));clear X
 go_loopw [66] (λar wr=> ∃j:Nat,ar=.int i64 (j:Int)/\j<=n/\Hid (PC b w.heap.size w P 70 #[.int i64 5,.string (J op),.string (J nm),.string (J tx),.int i64 v,.slice V n c] (.slice V n c) xs (l++K++dS [44,32] ((eX xs).take j)) wr)) (λar _=>n-(intOf ar).toNat)
 case atStart=>exact⟨0,rfl,aI _,by simpa[dS]using M⟩
 case round=>
  clear M;obtain⟨j,rfl,bH,R⟩:=hrel;by_cases hlt:j<n
  ·have a1:(j:Int)<n:=Qa
   have aH:j<xs.length:=by have:=aS.out;omega
   obtain⟨bN,bn,bO,rfl,bI,bK,bc,bb,ba,a9,a5,a4,an⟩:=R.out.rd.at_ j aH;have aA:=O (bg.out _ (ay aH));have av:(eX xs).length=xs.length:=by rw[nk];simp
   have aF:(eX xs)[j]' Qa=b_ xs[j]:=by simp[nk]
   have aj:=O (show dS [44,32] ((eX xs).take (j+1))=dS [44,32] ((eX xs).take j)++((if(eX xs).take j=[]then[]else[44,32])++b_ xs[j])from by rw[aX Qa,vS,aF]);have bJ:(dS [44,32] ((eX xs).take (j+1))).length<=(dS [44,32] (eX xs)).length:=by
    have:eX xs=(eX xs).take (j+1)++(eX xs).drop (j+1):=(dm _ _).symm
    conv=>rhs;rw[this]
    cases G:(eX xs).take (j+1)with
    |nil=>simp[dS]
    |cons a r=>simp[dS]
   have al:((eX xs).take j=[])↔j=0:=by
    rw[List.take_eq_nil_iff];constructor
    ·rintro(G|G)
     ·exact G
     ·rw[G]at av;simp at av;omega
    ·exact λG=> .inl G
   generalize xs[j]=y at*;unfold oP at aA;obtain⟨ak,af,rfl,_⟩:=an.form;have bh:=O an;have a3:y.args.length=y.args.length:=rfl;have br:=R.out.bu.lt;have A:=O (R.out.ex (Z _ (.cells #[.int i64 y.k,.string (J y.op),.string (J y.nm),.string (J y.tx),.int i64 y.v,.slice ak y.args.length af] 70)));have aO:=O (aw wr 70 #[.int i64 y.k,.string (J y.op),.string (J y.nm),.string (J y.tx),.int i64 y.v,.slice ak y.args.length af]);have aV:wr.heap.size≠b:=Qa
   have aQ:=O (an.keep (.of_ext (Z wr (.cells #[.int i64 y.k,.string (J y.op),.string (J y.nm),.string (J y.tx),.int i64 y.v,.slice ak y.args.length af] 70))) (λ_ I _=>I));generalize dS [44,32] ((eX xs).take j)=ag at*;generalize aN:dS [44,32] ((eX xs).take (j+1))=bd at*;have ab:=congrArg List.length aj.out;simp only[ac]at ab;generalize b_ y=bQ at*;clear an av aF bh a3;by_cases hj0:j=0
   ·subst hj0;simp only[bp,bE]at bc bb ba a9 a5 a4;rw[if_pos (al.2 rfl)]at aj ab;simp only[ai]at ab;clear al;go_wp2_with (go_at_call 201;refine(aA.out P _ ak _ af b (l++K++ag) aQ.out ao A.out.tab A.out.bu (by simp only[ac];omega)).mono ?_;rintro e u3 ⟨rfl,z,o⟩;have aC:=O (A.out.wr z o);clear z o A);go_roundw
    case rel=>exact⟨1,rfl,by omega,by have:=aj.out;rw[show dS [44,32] (List.take 1 (eX xs))=bd from aN,this];simpa[aq]using aC⟩
    case measure=>simp[intOf];omega
   ·have bG:(0:Int)<j:=Qa
    have bF:0<j:=Qa
    rw[if_neg (λG=>hj0 (al.1 G))]at aj ab;simp only[ah,ai]at ab;clear al;have aU:=aO.out.cell;go_wp2_with (first|(go_at_call 91;refine(cV b (l++K++ag) [44,32] _ A.out.bu (by simp only[ac,ah,ai];omega)).mono ?_;rintro e u2 ⟨rfl,z,o⟩;have M:=O (A.out.wr z o);have bf:=O (o.keep _ _ _ aV Qc aO.out);have bq:=bf.out.cell;have bi:=O (aQ.out.keep (o.keepP ao) (λ_ I _=>I));clear z o A;clear aU)|(go_at_call 201;refine(aA.out P _ ak _ af b (l++K++ag++[44,32]) bi.out ao M.out.tab M.out.bu (by simp only[ac,ah,ai];omega)).mono ?_;rintro e u3 ⟨rfl,z,o⟩;have aC:=O (M.out.wr z o);clear z o M));go_roundw
    case rel=>exact⟨j+1,by go_num,by omega,by have:=aj.out;rw[aN,this];simpa[aq]using aC⟩
    case measure=>simp[intOf];omega
  ·have a1: ¬(j:Int)<n:=Qa
   have a2:j=n:=Qa
   have aR:=O (show(eX xs).take j=eX xs from by rw[a2,aS.out,bC (by rw[nk];simp)]);rw[aR.out]at R;generalize dS [44,32] (eX xs)=ag at*;clear aR;go_wp2_with ((go_at_call 91;refine(cV b (l++K++ag) [41] _ R.out.bu (by simp only[ac,ah,ai];omega)).mono ?_;rintro e bl ⟨rfl,z,o⟩;have aT:=O (R.out.wr z o);clear z o R))
   go_end0
   exact⟨rfl,by rw[<-aP.out];have:=aT.out.bu;rw[<-az.out]at this;simpa[aq]using this,aT.out.fb⟩
theorem Hj (op nm tx:List UInt8) (v:Int) (y:Ex) (aI:oP y) (P:Nat->Prop) (o:World) (aW:Option Addr) (n c b:Nat) (l:List UInt8) (af:c7 o P (.slice aW n c) [y]) (R: ∀k,P k->k<b) (I:dP o b) (ab:Bu o b l) (S:List UInt8) (aN:b_ (.mk 6 op nm tx v [y])=S) (bt:l.length+S.length<=1000000000):
  Calls prog 201 #[.pointer (some ⟨b,0,none⟩),.agg #[.int i64 6,.string (J op),.string (J nm),.string (J tx),.int i64 v,.slice aW n c]] o λe w'=>e=.returned (.tuple #[])/\Bu w' b (l++S)/\FB b o w':=by
 have aL:=af.len;have aS:=O (show op++mx (decide (y.prec<7)) (b_ y)=S from by rw[<-aN];rfl);have bo:=o_ (decide (y.prec<7)) (b_ y);have br:op.length+(mx (decide (y.prec<7)) (b_ y)).length=S.length:=by rw[<-aS.out];simp only[ac]
 have bq:(b_ y).length<=(mx (decide (y.prec<7)) (b_ y)).length:=by unfold mx;split<;>simp<;>omega
 clear aN;simp only[ah,ai]at aL;obtain rfl:n=1:=aL;obtain⟨aD,j,a0,a4,z,A,ax,av,ar,ap,ao,an,ad⟩:=af.at_ 0 Qd;simp only[aK,aV,bp,bE,cL]at ax av ar ap ao an ad;obtain⟨aU,aR,rfl,_⟩:=ad.form;have G:=O (aE ax (aE av (aE ar (aE ap (aE ao an)))));have bi:=O ad;clear ax av ar ap ao an ad;subst a4;have al:=O (show PC b o.heap.size o P 70 #[.int i64 6,.string (J op),.string (J nm),.string (J tx),.int i64 v,.slice (some ⟨aD,j,none⟩) 1 c] (.slice (some ⟨aD,j,none⟩) 1 c) [y] l _ from⟨aw o 70 #[.int i64 6,.string (J op),.string (J nm),.string (J tx),.int i64 v,.slice (some ⟨aD,j,none⟩) 1 c],ab.ext (Z o _),af.keep (.of_ext (Z o _)) (λ_ aC _=>aC),be (Z o _) (aM ab.lt),I.fb (be (Z o _) (aM ab.lt)),bP ab.lt,by decide,R⟩);have X:=al.out.box.cell;clear ab af I;have bk:=O (λo=>nr y o (.slice aU y.args.length aR) ⟨_,_,_,rfl⟩);have bl:=O (sm y aI);generalize y.prec=az at*;generalize b_ y=bg at*;clear aI;go_enter func201,ntmps201;go_wp2_with fail;refine aB 5 3 [] mixed Qb trivial ?_;repeat (refine sx ?_ (λaG K=> ?_) ?_;rotate_left;(focus have aP:=(al.out.ex K.un).box.cell;clear K;go_simp<;>with_reducible rfl);simp only[a8,a7,a6,aZ,aY])
 intro bm aH M;clear M;simp only[ae,au];have ak:=O (al.out.ex aH.un);clear aH X al;have X:=ak.out.box.cell;go_wp2_with ((go_at_call 91;refine(cV b l op _ ak.out.bu Qa).mono ?_;rintro e u2 ⟨rfl,aj,ag⟩;have w:=O (ak.out.wr aj ag);clear aj ag ak;clear X;have X:=w.out.box.cell));have aA:=aM w.out.bu.lt;clear X;refine jb b 12 8 [(9,λx=>x=.int i64 az,λ_ _=>True),(11,λx=>x=.tuple #[],λ_ aX=>Bu aX b (l++op++mx (decide (az<7)) bg))] 11 mixed Qb aA ⟨λ_ _ _ _ _=>trivial,λ_ _ _ a5 a2=>a5.ext a2,trivial⟩ ⟨.inr λ_ _ _ _ _=>trivial,.inl rfl,trivial⟩ ?_;repeat (refine sx ?_ (λaG K=> ?_) ?_;rotate_left;(focus have V:=nA (K aA);have aP:=(V.keep _ _ _ w.out.ne w.out.tt w.out.box).cell;have a:=fH (w.out.fb.keepP R) (V.keepP R);have bf:=(a.cell (j) A z).trans G.out.1;have bd:=(a.cell (j+1) A z).trans G.out.2.1;have bc:=(a.cell (j+2) A z).trans G.out.2.2.1;have bb:=(a.cell (j+3) A z).trans G.out.2.2.2.1;have ba:=(a.cell (j+4) A z).trans G.out.2.2.2.2.1;have a9:=(a.cell (j+5) A z).trans G.out.2.2.2.2.2;clear V a K;go_simp<;>with_reducible rfl);simp only[a8,a7,a6,aZ,aY])
 refine so (λay K M bh a=> ?_) ?_
 ·clear M K;go_simp;refine(bk.out ay).mono ?_;rintro e a1 ⟨rfl,a3⟩;exact a _ _ a3 rfl trivial
 rintro _ rfl;simp only[a8,a7,a6,aZ,aY];repeat (refine sx ?_ (λaG K=> ?_) ?_;rotate_left;(focus have V:=nA (K aA);have aP:=(V.keep _ _ _ w.out.ne w.out.tt w.out.box).cell;have a:=fH (w.out.fb.keepP R) (V.keepP R);have bf:=(a.cell (j) A z).trans G.out.1;have bd:=(a.cell (j+1) A z).trans G.out.2.1;have bc:=(a.cell (j+2) A z).trans G.out.2.2.1;have bb:=(a.cell (j+3) A z).trans G.out.2.2.2.1;have ba:=(a.cell (j+4) A z).trans G.out.2.2.2.2.1;have a9:=(a.cell (j+5) A z).trans G.out.2.2.2.2.2;clear V a K;go_simp<;>with_reducible rfl);simp only[a8,a7,a6,aZ,aY])
 refine bR _ _ Qe rfl ⟨_,rfl⟩ rfl (λay I M bh a=> ?_) ?_
 ·have aT:=O (w.out.ex I.un);have aO:=bi.out.keep (fH (w.out.fb.keepP R) (.of_ext I.un)) (λ_ aC _=>aC);have bj:=O aO;clear M I aO;go_simp;refine(bl.out (decide (az<7)) P ay aU _ aR b (l++op) bj.out R aT.out.tab aT.out.bu (by first|omega|(simp only[ac,ah,ai];omega))).mono ?_;rintro e a1 ⟨rfl,aj,ag⟩;exact a _ _ (λ_=>ag) rfl aj
 rintro _ rfl;simp only[a8,a7,a6,aZ,aY];intro bn aJ M;have aF:=O (w.out.wr (M _ (.head _)) aJ);clear aJ M;simp only[ae,aQ];have X:=aF.out.box.cell;go_wp2_with fail
 go_end0
 exact⟨rfl,by rw[<-aS.out];have:=aF.out.bu;simpa[aq]using this,aF.out.fb⟩
theorem Hi (op nm tx:List UInt8) (v:Int) (y o:Ex) (bG:oP y) (bF:oP o) (P:Nat->Prop) (w:World) (bV:Option Addr) (n c b:Nat) (l:List UInt8) (az:c7 w P (.slice bV n c) [y,o]) (K: ∀k,P k->k<b) (aj:dP w b) (aA:Bu w b l) (S:List UInt8) (bJ:b_ (.mk 7 op nm tx v [y,o])=S) (b7:l.length+S.length<=1000000000):
  Calls prog 201 #[.pointer (some ⟨b,0,none⟩),.agg #[.int i64 7,.string (J op),.string (J nm),.string (J tx),.int i64 v,.slice bV n c]] w λe w'=>e=.returned (.tuple #[])/\Bu w' b (l++S)/\FB b w w':=by
 have bI:=az.len;have bS:=O (show mx (decide (y.prec<im op)) (b_ y)++([32]++op++[32])++mx (decide (o.prec<=im op)) (b_ o)=S from by rw[<-bJ];rfl);have b6:(mx (decide (y.prec<im op)) (b_ y)).length+(1+op.length+1)+(mx (decide (o.prec<=im op)) (b_ o)).length=S.length:=by rw[<-bS.out];simp only[ac,ah,ai]
 have b3:(b_ y).length<=(mx (decide (y.prec<im op)) (b_ y)).length:=by unfold mx;split<;>simp<;>omega
 have b2:(b_ o).length<=(mx (decide (o.prec<=im op)) (b_ o)).length:=by unfold mx;split<;>simp<;>omega
 clear bJ;simp only[ah,ai]at bI;obtain rfl:n=2:=bI;obtain⟨aN,j,a0,cb,X,ab,ba,a5,a3,a1,aW,aT,aJ⟩:=az.at_ 0 Qd;simp only[aK,aV,bp,bE,cL]at ba a5 a3 a1 aW aT aJ;obtain⟨bU,bL,rfl,_⟩:=aJ.form;subst cb;obtain⟨co,cm,bq,aC,V,I,a9,a4,a2,aX,aU,aS,aI⟩:=az.at_ 1 Qd;simp only[aK,aV,bp,bE,cL]at a9 a4 a2 aX aU aS aI;obtain⟨bT,bK,rfl,_⟩:=aI.form;injection aC with aC;injection aC with aC ca;subst aC ca;have af:=O (aE ba (aE a5 (aE a3 (aE a1 (aE aW aT)))));have ce:=O aJ;clear ba a5 a3 a1 aW aT aJ;have ad:=O (aE a9 (aE a4 (aE a2 (aE aX (aE aU aS)))));have cd:=O aI;clear a9 a4 a2 aX aU aS aI;have bA:=O (show PC b w.heap.size w P 70 #[.int i64 7,.string (J op),.string (J nm),.string (J tx),.int i64 v,.slice (some ⟨aN,j,none⟩) 2 c] (.slice (some ⟨aN,j,none⟩) 2 c) [y,o] l _ from⟨aw w 70 #[.int i64 7,.string (J op),.string (J nm),.string (J tx),.int i64 v,.slice (some ⟨aN,j,none⟩) 2 c],aA.ext (Z w _),az.keep (.of_ext (Z w _)) (λ_ ax _=>ax),be (Z w _) (aM aA.lt),aj.fb (be (Z w _) (aM aA.lt)),bP aA.lt,by decide,K⟩);have ag:=bA.out.box.cell;clear aA az aj;have cg:=O (λw=>nr y w (.slice bU y.args.length bL) ⟨_,_,_,rfl⟩);have ci:=O (sm y bG);have cf:=O (λw=>nr o w (.slice bT o.args.length bK) ⟨_,_,_,rfl⟩);have ch:=O (sm o bF);generalize y.prec=aH at*;generalize o.prec=aG at*;obtain⟨ak,bv⟩: ∃c,Hid ([32]++op=c):=⟨_,O rfl⟩
 have bC:ak.length=1+op.length:=by rw[<-bv.out,ac];rfl
 have bX:(⟨#[32]⟩:ByteArray)++J op=J ak:=by rw[<-bv.out];exact eh _ _
 have b5: ¬9223372036854775807<1+op.length:=Qa
 have b9: ¬9223372036854775807<op.length+1:=Qa
 have b1:((⟨#[32]⟩:ByteArray)).size=1:=rfl;have b0:(J op).size=op.length:=bm _;obtain⟨ar,bt⟩: ∃c,Hid (ak++[32]=c):=⟨_,O rfl⟩
 have bB:ar.length=ak.length+1:=by rw[<-bt.out,ac];rfl
 have bW:J ak++(⟨#[32]⟩:ByteArray)=J ar:=by rw[<-bt.out];exact eh _ _
 have b4: ¬9223372036854775807<ak.length+1:=Qa
 have b8: ¬9223372036854775807<1+ak.length:=Qa
 have bZ:(J ak).size=ak.length:=bm _;have bY:((⟨#[32]⟩:ByteArray)).size=1:=rfl;have bQ:=O bC;have bO:=O bB;clear bC bB;have bx:=O (λw=>nr (.mk 7 op nm tx v [y,o]) w (.slice (some ⟨aN,j,none⟩) 2 c) ⟨_,_,_,rfl⟩);have bH:Ex.prec (.mk 7 op nm tx v [y,o])=im op:=rfl;rw[bH]at bx;simp only[Ex.k,Ex.op,Ex.nm,Ex.tx,Ex.v]at bx;generalize im op=L at*;generalize b_ y=bN at*;generalize b_ o=bM at*;clear bG bF bH;go_enter func201,ntmps201;go_wp2_with (go_at_call 217;refine(bx.out _).mono ?_;rintro e u1 ⟨rfl,an⟩;have R:=O (bA.out.ex an);clear an ag bA;have ag:=R.out.box.cell);have bg:=aM R.out.bu.lt;clear ag;refine jb b 13 8 [(9,λx=>x=.int i64 aH,λ_ _=>True),(12,λx=>x=.tuple #[],λ_ bb=>Bu bb b (l++mx (decide (aH<L)) bN))] 12 mixed Qb bg ⟨λ_ _ _ _ _=>trivial,λ_ _ _ bh bd=>bh.ext bd,trivial⟩ ⟨.inr λ_ _ _ _ _=>trivial,.inl rfl,trivial⟩ ?_;repeat (refine sx ?_ (λaF z=> ?_) ?_;rotate_left;(focus have G:=nA (z bg);have aL:=(G.keep _ _ _ R.out.ne R.out.tt R.out.box).cell;have a:=fH (R.out.fb.keepP K) (G.keepP K);have bo:=(a.cell (j) ab X).trans af.out.1;have bn:=(a.cell (j+1) ab X).trans af.out.2.1;have bl:=(a.cell (j+2) ab X).trans af.out.2.2.1;have bk:=(a.cell (j+3) ab X).trans af.out.2.2.2.1;have bj:=(a.cell (j+4) ab X).trans af.out.2.2.2.2.1;have bi:=(a.cell (j+5) ab X).trans af.out.2.2.2.2.2;clear G a z;go_simp<;>with_reducible rfl);simp only[a8,a7,a6,aZ,aY])
 refine so (λal z A br a=> ?_) ?_
 ·clear A z;go_simp;refine(cg.out al).mono ?_;rintro e bc ⟨rfl,an⟩;exact a _ _ an rfl trivial
 rintro _ rfl;simp only[a8,a7,a6,aZ,aY];repeat (refine sx ?_ (λaF z=> ?_) ?_;rotate_left;(focus have G:=nA (z bg);have aL:=(G.keep _ _ _ R.out.ne R.out.tt R.out.box).cell;have a:=fH (R.out.fb.keepP K) (G.keepP K);have bo:=(a.cell (j) ab X).trans af.out.1;have bn:=(a.cell (j+1) ab X).trans af.out.2.1;have bl:=(a.cell (j+2) ab X).trans af.out.2.2.1;have bk:=(a.cell (j+3) ab X).trans af.out.2.2.2.1;have bj:=(a.cell (j+4) ab X).trans af.out.2.2.2.2.1;have bi:=(a.cell (j+5) ab X).trans af.out.2.2.2.2.2;clear G a z;go_simp<;>with_reducible rfl);simp only[a8,a7,a6,aZ,aY])
 refine bR _ _ Qe rfl ⟨_,rfl⟩ rfl (λal aj A br a=> ?_) ?_
 ·have aD:=O (R.out.ex aj.un);have ay:=ce.out.keep (fH (R.out.fb.keepP K) (.of_ext aj.un)) (λ_ ax _=>ax);have bw:=O ay;clear A aj ay;go_simp;refine(ci.out (decide (aH<L)) P al bU _ bL b (l) bw.out K aD.out.tab aD.out.bu (by first|omega|(simp only[ac,ah,ai];omega))).mono ?_;rintro e bc ⟨rfl,ap,ao⟩;exact a _ _ (λ_=>ao) rfl ap
 rintro _ rfl;simp only[a8,a7,a6,aZ,aY];intro cl av A;have aR:=O (R.out.wr (A _ (.head _)) av);clear av A;simp only[ae,aQ];have ag:=aR.out.box.cell;go_wp2_with fail;generalize cn:mx (decide (aH<L)) bN=aO at*;refine aB 7 3 [] mixed Qb trivial ?_;repeat (refine sx ?_ (λaF z=> ?_) ?_;rotate_left;(focus have aL:=(aR.out.ex z.un).box.cell;clear z;go_simp<;>with_reducible rfl);simp only[a8,a7,a6,aZ,aY])
 intro cj bD A;clear A;simp only[ae,au];have aP:=O (aR.out.ex bD.un);clear bD ag aR;have ag:=aP.out.box.cell;go_wp2_with ((go_at_call 91;refine(cV b (l++aO) ar _ aP.out.bu (by have bq:=bQ.out;have cc:=bO.out;simp only[ac];omega)).mono ?_;rintro e u4 ⟨rfl,ap,ao⟩;have M:=O (aP.out.wr ap ao);clear ap ao aP;clear ag;have ag:=M.out.box.cell));have bq:l.length+aO.length+ar.length+(mx (decide (aG<=L)) bM).length<=1000000000:=by have bq:=bQ.out;have cc:=bO.out;omega
 clear bX bW b5 b4 b9 b8 b1 b0 bZ bY b6 b7 b3 b2;have bf:=aM M.out.bu.lt;clear ag;refine jb b 13 8 [(9,λx=>x=.int i64 aG,λ_ _=>True),(12,λx=>x=.tuple #[],λ_ bb=>Bu bb b (l++aO++ar++mx (decide (aG<=L)) bM))] 12 mixed Qb bf ⟨λ_ _ _ _ _=>trivial,λ_ _ _ bh bd=>bh.ext bd,trivial⟩ ⟨.inr λ_ _ _ _ _=>trivial,.inl rfl,trivial⟩ ?_;repeat (refine sx ?_ (λaF z=> ?_) ?_;rotate_left;(focus have G:=nA (z bf);have aL:=(G.keep _ _ _ M.out.ne M.out.tt M.out.box).cell;have a:=fH (M.out.fb.keepP K) (G.keepP K);have bo:=(a.cell (j+6) I V).trans ad.out.1;have bn:=(a.cell (j+6+1) I V).trans ad.out.2.1;have bl:=(a.cell (j+6+2) I V).trans ad.out.2.2.1;have bk:=(a.cell (j+6+3) I V).trans ad.out.2.2.2.1;have bj:=(a.cell (j+6+4) I V).trans ad.out.2.2.2.2.1;have bi:=(a.cell (j+6+5) I V).trans ad.out.2.2.2.2.2;clear G a z;go_simp<;>with_reducible rfl);simp only[a8,a7,a6,aZ,aY])
 refine so (λal z A br a=> ?_) ?_
 ·clear A z;go_simp;refine(cf.out al).mono ?_;rintro e bc ⟨rfl,an⟩;exact a _ _ an rfl trivial
 rintro _ rfl;simp only[a8,a7,a6,aZ,aY];repeat (refine sx ?_ (λaF z=> ?_) ?_;rotate_left;(focus have G:=nA (z bf);have aL:=(G.keep _ _ _ M.out.ne M.out.tt M.out.box).cell;have a:=fH (M.out.fb.keepP K) (G.keepP K);have bo:=(a.cell (j+6) I V).trans ad.out.1;have bn:=(a.cell (j+6+1) I V).trans ad.out.2.1;have bl:=(a.cell (j+6+2) I V).trans ad.out.2.2.1;have bk:=(a.cell (j+6+3) I V).trans ad.out.2.2.2.1;have bj:=(a.cell (j+6+4) I V).trans ad.out.2.2.2.2.1;have bi:=(a.cell (j+6+5) I V).trans ad.out.2.2.2.2.2;clear G a z;go_simp<;>with_reducible rfl);simp only[a8,a7,a6,aZ,aY])
 refine bR _ _ Qe rfl ⟨_,rfl⟩ rfl (λal aj A br a=> ?_) ?_
 ·have aD:=O (M.out.ex aj.un);have ay:=cd.out.keep (fH (M.out.fb.keepP K) (.of_ext aj.un)) (λ_ ax _=>ax);have bw:=O ay;clear A aj ay;go_simp;refine(ch.out (decide (aG<=L)) P al bT _ bK b (l++aO++ar) bw.out K aD.out.tab aD.out.bu (by first|omega|(simp only[ac,ah,ai];omega))).mono ?_;rintro e bc ⟨rfl,ap,ao⟩;exact a _ _ (λ_=>ao) rfl ap
 rintro _ rfl;simp only[a8,a7,a6,aZ,aY];intro ck av A;have bz:=O (M.out.wr (A _ (.head _)) av);clear av A;simp only[ae,aQ];have ag:=bz.out.box.cell;go_wp2_with fail
 go_end0
 exact⟨rfl,by rw[<-bS.out];have:=bz.out.bu;rw[<-bt.out,<-bv.out]at this;simpa[aq]using this,bz.out.fb⟩
end
section
open Go.RowKit
theorem wR: ∀(m:Nat) (x:Ex),x.wt<=m->x.ok=true->oP x
 |0,x,hm,_=>absurd hm (by have:=x.wt_eq;omega)
 |m+1,.mk k op nm tx v a,hm,h=>by
  have I:=(Ex.mk k op nm tx v a).wt_eq;simp only[Ex.op,Ex.nm,Ex.tx,Ex.args]at I;rw[Ex.ok,ag]at h;obtain⟨j,X⟩:=h;rw[kY]at X;have R: ∀y,y∈a->oP y:=λy V=>wR m y (by have:=dG V;omega) (List.all_eq_true.1 X y V);intro P o M n c b l A G z K w;simp only[Ex.k,Ex.op,Ex.nm,Ex.tx,Ex.v,Ex.args]at*;by_cases k1:k=1
  ·subst k1;rw[if_pos rfl]at j;simp only[ag,decide_eq_true_eq]at j;exact Ho op nm tx v a j.1.1.1 j.1.1.2 P o M n c b l A G z K _ rfl w
  rw[if_neg k1]at j;by_cases k2:k=2
  ·subst k2;rw[if_pos rfl]at j;simp only[ag,qA,decide_eq_true_eq]at j;exact Hn op nm tx v a j.1.1.2 P o M n c b l A G z K _ rfl w
  rw[if_neg k2]at j;by_cases k3:k=3
  ·subst k3;exact Hm op nm tx v a P o M n c b l A G z K _ rfl w
  rw[if_neg k3]at j;by_cases k4:k=4
  ·subst k4;rw[if_pos rfl]at j;simp only[ag,beq_iff_eq]at j;obtain⟨y,rfl⟩:=List.length_eq_one_iff.1 j.2;exact Hl op nm tx v y (R y Qd) P o M n c b l A G z K _ rfl w
  rw[if_neg k4]at j;by_cases k5:k=5
  ·subst k5;rw[if_pos rfl]at j;simp only[ag,decide_eq_true_eq]at j;exact Hk op nm tx v a R j.1.2 P o M n c b l A G z K _ rfl w
  rw[if_neg k5]at j;by_cases k6:k=6
  ·subst k6;rw[if_pos rfl]at j;simp only[ag,beq_iff_eq]at j;obtain⟨y,rfl⟩:=List.length_eq_one_iff.1 j.2;exact Hj op nm tx v y (R y Qd) P o M n c b l A G z K _ rfl w
  rw[if_neg k6]at j;by_cases k7:k=7
  ·subst k7;rw[if_pos rfl]at j;simp only[ag,beq_iff_eq]at j;obtain⟨y,O,rfl⟩: ∃y O,a=[y,O]:=by
    cases a with
    |nil=>simp at j
    |cons y r=>
     cases r with
     |nil=>simp at j
     |cons O r=>
      cases r with
      |nil=>exact⟨y,O,rfl⟩
      |cons u r=>simp at j
   exact Hi op nm tx v y O (R y Qd) (R O Qd) P o M n c b l A G z K _ rfl w
  ·rw[if_neg k7]at j
   cases j
theorem CV {x:Ex} (a:x.ok=true):oP x:=wR _ x (ak _) a
def jt (i:Nat):List UInt8:=List.replicate i 9
def fu (i:Nat) (ts:List (List UInt8)):List UInt8:=[123,10]++ts.flatMap (λt=>jt (i+1)++t++[10])++(jt i++[125])
def oR:List UInt8:=[118,97,114,32]
def zN:List UInt8:=[32,61,32]
def Ei:List UInt8:=[105,102,32]
def ju:List UInt8:=[32,101,108,115,101,32]
def r6:List UInt8:=[119,104,105,108,101,32]
def mm:List UInt8:=[114,101,116,117,114,110]
def kU (i:Nat) (k:Int) (nm:List UInt8) (es bs ls l0:List (List UInt8)) (mO:Bool):List UInt8:=
 if k=1 then(if es=[]then oR++nm++[59]else oR++nm++zN++es.headD []++[59])
 else if k=2 then nm++zN++es.headD []++[59]
 else if k=3 then nm++[91]++es.headD []++[93]++(zN++es.tail.headD []++[59])
 else if k=4 then Ei++es.headD []++[32]++fu i bs++(if mO then ju++l0.headD []else if ls=[]then[]else ju++fu i ls)
 else if k=5 then r6++es.headD []++[32]++fu i bs
 else if k=6 then(if es=[]then mm++[59]else mm++[32]++es.headD []++[59])
 else if k=7 then es.headD []++[59]
 else[]
def fR (l:List St):Bool:=l.length==1&&l.head?.map St.k==some 4
mutual
def dD:St->Nat->List UInt8| .mk k nm e b l,i=>kU i k nm (eX e) (bK b (i+1)) (bK l (i+1)) (bK l i) (fR l)
def bK:List St->Nat->List (List UInt8)
 | [],_=>[]
 |x::r,i=>dD x i::bK r i
end
theorem mq: ∀(l:List St) (i:Nat),bK l i=l.map λx=>dD x i
 | [],_=>rfl
 |x::r,i=>by rw[bK,mq r i];rfl
def kS (v:Vr):List UInt8:=oR++v.nm++(if 0<v.sz then[91]++fZ v.sz.toNat++[93]else[])++[59,10]
def tm:List UInt8:=[102,117,110,99,32]
def kT (f:Fc):List UInt8:=tm++f.nm++[40]++dS [44,32] f.ps++[41,32]++fu 0 (bK f.body 1)++[10]
def iZ (p:Pg):List UInt8:=p.vs.flatMap kS++p.fs.flatMap kT
end
section
open Go.RowKit
structure PS (b px:Nat) (w0:World) (P:Nat->Prop) (cs:Array Value) (e v z:Value) (x:St) (l:List UInt8) (W:World):Prop where
 box:aU W px 72 cs
 bu:Bu W b l
 re:c7 W P e x.ex
 rb:db W P v x.body
 rl:db W P z x.els
 fb:FB b w0 W
 tab:dP W b
 ne:px≠b
 tt:72≠5
 hP: ∀k,P k->k<b
section
variable {b px:Nat} {w0 W W':World} {P:Nat->Prop} {cs:Array Value} {e v z:Value} {x:St} {l l':List UInt8}
theorem PS.wr (a:PS b px w0 P cs e v z x l W) (o:Bu W' b l') (h:FB b W W'):PS b px w0 P cs e v z x l' W':=
 ⟨h.keep _ _ _ a.ne a.tt a.box,o,a.re.keep (h.keepP a.hP) (λ_ j _=>j),a.rb.keep (h.keepP a.hP) (λ_ j _=>j),a.rl.keep (h.keepP a.hP) (λ_ j _=>j),a.fb.trans h,a.tab.fb h,a.ne,a.tt,a.hP⟩
theorem PS.ex (a:PS b px w0 P cs e v z x l W) (h:az W W'):PS b px w0 P cs e v z x l W':=a.wr (a.bu.ext h) (be h (aM a.bu.lt))
end
theorem fD (x:Ex) (V:oP x) (w K:List UInt8) (P:Nat->Prop) (a:World) (A:Option Addr) (n c b:Nat) (l:List UInt8) (ab:c7 a P (.slice A n c) x.args) (ad: ∀k,P k->k<b) (I:dP a b) (G:Bu a b l) (ah:l.length+w.length+(b_ x).length+K.length<=1000000000):
  Calls prog 175 #[.pointer (some ⟨b,0,none⟩),.string (J w),.agg #[.int i64 x.k,.string (J x.op),.string (J x.nm),.string (J x.tx),.int i64 x.v,.slice A n c],.string (J K)] a λe w'=>e=.returned (.tuple #[])/\Bu w' b (l++(w++b_ x++K))/\FB b a w':=by
 have ae:=O V;clear V;unfold oP at ae;generalize b_ x=S at*;generalize ai:x.args=xs at*;generalize x.k=k at*;generalize x.op=op at*;generalize x.nm=nm at*;generalize x.tx=tx at*;generalize x.v=v at*;have M:=O (show PC b a.heap.size a P 70 #[.int i64 k,.string (J op),.string (J nm),.string (J tx),.int i64 v,.slice A n c] (.slice A n c) xs l _ from⟨aw a 70 #[.int i64 k,.string (J op),.string (J nm),.string (J tx),.int i64 v,.slice A n c],G.ext (Z a _),ab.keep (.of_ext (Z a _)) (λ_ ag _=>ag),be (Z a _) (aM G.lt),I.fb (be (Z a _) (aM G.lt)),bP G.lt,by decide,ad⟩);have X:=M.out.box.cell;clear G ab I;go_enter func175,ntmps175;go_wp2_with (first|(go_at_call 91;refine(cV b l w _ M.out.bu Qa).mono ?_;rintro e u1 ⟨rfl,o,j⟩;have z:=O (M.out.wr o j);clear o j M;clear X;have X:=z.out.box.cell)|(go_at_call 201;refine(ae.out P _ A n c b (l++w) z.out.rd ad z.out.tab z.out.bu (by simp only[ac];omega)).mono ?_;rintro e u2 ⟨rfl,o,j⟩;have R:=O (z.out.wr o j);clear o j z)|(go_at_call 91;refine(cV b (l++w++S) K _ R.out.bu (by simp only[ac];omega)).mono ?_;rintro e u3 ⟨rfl,o,j⟩;have af:=O (R.out.wr o j);clear o j R))
 go_end0
 exact⟨rfl,by have:=af.out.bu;simpa[aq]using this,af.out.fb⟩
def FX (x:St):Prop:= ∀(P:Nat->Prop) (w:World) (A B C:Option Addr) (n c nb cb nl cl b i:Nat) (l:List UInt8),c7 w P (.slice A n c) x.ex->db w P (.slice B nb cb) x.body->db w P (.slice C nl cl) x.els->(∀k,P k->k<b)->dP w b->Bu w b l->l.length+(dD x i).length<=1000000000->Calls prog 136 #[.pointer (some ⟨b,0,none⟩),.agg #[.int i64 x.k,.string (J x.nm),.slice A n c,.slice B nb cb,.slice C nl cl],.int i64 (i:Int)] w λe w'=>e=.returned (.tuple #[])/\Bu w' b (l++dD x i)/\FB b w w'
def wc (x:St):Prop:= ∀(P:Nat->Prop) (w:World) (A B C:Option Addr) (n c nb cb nl cl b i:Nat) (l:List UInt8),c7 w P (.slice A n c) x.ex->db w P (.slice B nb cb) x.body->db w P (.slice C nl cl) x.els->(∀k,P k->k<b)->dP w b->Bu w b l->l.length+(dD x i).length<=1000000000->Calls prog 176 #[.pointer (some ⟨b,0,none⟩),.agg #[.int i64 x.k,.string (J x.nm),.slice A n c,.slice B nb cb,.slice C nl cl],.int i64 (i:Int)] w λe w'=>e=.returned (.tuple #[])/\Bu w' b (l++dD x i)/\FB b w w'
def mH (xs:List St):Prop:= ∀(P:Nat->Prop) (w:World) (B:Option Addr) (nb cb b i:Nat) (l:List UInt8),db w P (.slice B nb cb) xs->(∀k,P k->k<b)->dP w b->Bu w b l->l.length+(fu i (bK xs (i+1))).length<=1000000000->
 Calls prog 94 #[.pointer (some ⟨b,0,none⟩),.slice B nb cb,.int i64 (i:Int)] w λe w'=>e=.returned (.tuple #[])/\Bu w' b (l++fu i (bK xs (i+1)))/\FB b w w'
theorem Ge (nm:List UInt8) (ad I:List St) (P:Nat->Prop) (a:World) (M B C:Option Addr) (n c w K o G b i:Nat) (l:List UInt8) (X:c7 a P (.slice M n c) []) (ay:db a P (.slice B w K) ad) (ax:db a P (.slice C o G) I) (aF: ∀k,P k->k<b) (ar:dP a b) (A:Bu a b l) (S:List UInt8) (av:dD (.mk 1 nm [] ad I) i=S) (aU:l.length+S.length<=1000000000):
  Calls prog 136 #[.pointer (some ⟨b,0,none⟩),.agg #[.int i64 1,.string (J nm),.slice M n c,.slice B w K,.slice C o G],.int i64 (i:Int)] a λe w'=>e=.returned (.tuple #[])/\Bu w' b (l++S)/\FB b a w':=by
 have an:=X.len;simp only[ai]at an;obtain rfl:n=0:=an;have aC:=O (show[118,97,114,32]++nm++[59]=S from by rw[<-av];rfl);have aT:4+nm.length+1=S.length:=by rw[<-aC.out];simp only[ac,ah,ai]
 clear av;have V:=O (show PS b a.heap.size a P #[.int i64 1,.string (J nm),.slice M 0 c,.slice B w K,.slice C o G] (.slice M 0 c) (.slice B w K) (.slice C o G) (.mk 1 nm [] ad I) l _ from⟨aw a 72 #[.int i64 1,.string (J nm),.slice M 0 c,.slice B w K,.slice C o G],A.ext (Z a _),X.keep (.of_ext (Z a _)) (λ_ z _=>z),ay.keep (.of_ext (Z a _)) (λ_ z _=>z),ax.keep (.of_ext (Z a _)) (λ_ z _=>z),be (Z a _) (aM A.lt),ar.fb (be (Z a _) (aM A.lt)),bP A.lt,by decide,aF⟩);have ao:=V.out.box.cell;clear A X ar ay ax;obtain⟨j,ag⟩: ∃c,Hid ([118,97,114,32]++nm=c):=⟨_,O rfl⟩
 have al:j.length=4+nm.length:=by rw[<-ag.out,ac];(try rfl)
 have aL:(⟨#[118,97,114,32]⟩:ByteArray)++J nm=J j:=by rw[<-ag.out];exact eh _ _
 have aS: ¬9223372036854775807<4+nm.length:=Qa
 have aW: ¬9223372036854775807<nm.length+4:=Qa
 have aQ:((⟨#[118,97,114,32]⟩:ByteArray)).size=4:=rfl;have aP:(J nm).size=nm.length:=bm _;obtain⟨ab,af⟩: ∃c,Hid (j++[59]=c):=⟨_,O rfl⟩
 have ak:ab.length=j.length+1:=by rw[<-af.out,ac];(try rfl)
 have aK:J j++(⟨#[59]⟩:ByteArray)=J ab:=by rw[<-af.out];exact eh _ _
 have aR: ¬9223372036854775807<j.length+1:=Qa
 have aV: ¬9223372036854775807<1+j.length:=Qa
 have aO:(J j).size=j.length:=bm _;have aN:((⟨#[59]⟩:ByteArray)).size=1:=rfl;have aH:=O al;clear al;have aG:=O ak;clear ak;go_enter func136,ntmps136;go_wp2_with fail;refine aB 7 3 [] mixed Qb trivial ?_;repeat (refine sx ?_ (λaJ ap=> ?_) ?_;rotate_left;(focus have aX:=(V.out.ex ap.un).box.cell;clear ap;go_simp<;>with_reducible rfl);simp only[a8,a7,a6,aZ,aY])
 intro aI aj aE;clear aE;simp only[ae,au];have R:=O (V.out.ex aj.un);clear aj ao V;have ao:=R.out.box.cell;go_wp2_with ((go_at_call 91;refine(cV b l ab _ R.out.bu (by(try have a2:=aH.out);(try have a1:=aG.out);(try simp only[ac,ah,ai]);omega)).mono ?_;rintro e u2 ⟨rfl,aA,az⟩;have aD:=O (R.out.wr aA az);clear aA az R))
 (try simp only[Exit.inBlock,Exit.then]);refine bodyPost_ret (results_none rfl _ _ _) rfl ?_
 exact⟨rfl,by rw[<-aC.out];have:=aD.out.bu;rw[<-af.out,<-ag.out]at this;simpa[aq]using this,aD.out.fb⟩
theorem Gd (nm:List UInt8) (ay av:List St) (y:Ex) (aU:oP y) (P:Nat->Prop) (a:World) (aT B C:Option Addr) (n c I af X ad b i:Nat) (l:List UInt8) (aj:c7 a P (.slice aT n c) [y]) (aO:db a P (.slice B I af) ay) (aN:db a P (.slice C X ad) av) (w: ∀k,P k->k<b) (aJ:dP a b) (ab:Bu a b l) (S:List UInt8) (aL:dD (.mk 1 nm [y] ay av) i=S) (bn:l.length+S.length<=1000000000):
  Calls prog 136 #[.pointer (some ⟨b,0,none⟩),.agg #[.int i64 1,.string (J nm),.slice aT n c,.slice B I af,.slice C X ad],.int i64 (i:Int)] a λe w'=>e=.returned (.tuple #[])/\Bu w' b (l++S)/\FB b a w':=by
 have aR:=O (show[118,97,114,32]++nm++[32,61,32]++b_ y++[59]=S from by rw[<-aL];rfl);have aX:4+nm.length+3+(b_ y).length+1=S.length:=by rw[<-aR.out];simp only[ac,ah,ai]
 clear aL;have aH:=aj.len;simp only[ah,ai]at aH;obtain rfl:n=1:=aH;obtain⟨az,o,a0,a1,K,M,ar,ap,ao,an,al,ak,ag⟩:=aj.at_ 0 Qd;simp only[aK,aV,bp,bE,cL]at ar ap ao an al ak ag;obtain⟨a9,a2,rfl,_⟩:=ag.form;have R:=O (aE ar (aE ap (aE ao (aE an (aE al ak)))));have a5:=O ag;clear ar ap ao an al ak ag;subst a1;have j:=O (show PS b a.heap.size a P #[.int i64 1,.string (J nm),.slice (some ⟨az,o,none⟩) 1 c,.slice B I af,.slice C X ad] (.slice (some ⟨az,o,none⟩) 1 c) (.slice B I af) (.slice C X ad) (.mk 1 nm [y] ay av) l _ from⟨aw a 72 #[.int i64 1,.string (J nm),.slice (some ⟨az,o,none⟩) 1 c,.slice B I af,.slice C X ad],ab.ext (Z a _),aj.keep (.of_ext (Z a _)) (λ_ G _=>G),aO.keep (.of_ext (Z a _)) (λ_ G _=>G),aN.keep (.of_ext (Z a _)) (λ_ G _=>G),be (Z a _) (aM ab.lt),aJ.fb (be (Z a _) (aM ab.lt)),bP ab.lt,by decide,w⟩);have aI:=j.out.box.cell;clear ab aj aJ aO aN;obtain⟨z,aC⟩: ∃c,Hid ([118,97,114,32]++nm=c):=⟨_,O rfl⟩
 have aG:z.length=4+nm.length:=by rw[<-aC.out,ac];(try rfl)
 have bd:(⟨#[118,97,114,32]⟩:ByteArray)++J nm=J z:=by rw[<-aC.out];exact eh _ _
 have bk: ¬9223372036854775807<4+nm.length:=Qa
 have bq: ¬9223372036854775807<nm.length+4:=Qa
 have bi:((⟨#[118,97,114,32]⟩:ByteArray)).size=4:=rfl;have bh:(J nm).size=nm.length:=bm _;obtain⟨ax,aA⟩: ∃c,Hid (z++[32,61,32]=c):=⟨_,O rfl⟩
 have aF:ax.length=z.length+3:=by rw[<-aA.out,ac];(try rfl)
 have bc:J z++(⟨#[32,61,32]⟩:ByteArray)=J ax:=by rw[<-aA.out];exact eh _ _
 have bj: ¬9223372036854775807<z.length+3:=Qa
 have bo: ¬9223372036854775807<3+z.length:=Qa
 have bg:(J z).size=z.length:=bm _;have bf:((⟨#[32,61,32]⟩:ByteArray)).size=3:=rfl;have a4:=O aG;clear aG;have a3:=O aF;clear aF;go_enter func136,ntmps136;go_wp2_with fail;refine aB 9 3 [] mixed Qb trivial ?_;repeat (refine sx ?_ (λbb A=> ?_) ?_;rotate_left;(focus have br:=(j.out.ex A.un).box.cell;have bA:=((j.out.ex A.un).fb.keepP w).cell (o) M K|>.trans R.out.1;have bz:=((j.out.ex A.un).fb.keepP w).cell (o+1) M K|>.trans R.out.2.1;have bx:=((j.out.ex A.un).fb.keepP w).cell (o+2) M K|>.trans R.out.2.2.1;have bw:=((j.out.ex A.un).fb.keepP w).cell (o+3) M K|>.trans R.out.2.2.2.1;have bv:=((j.out.ex A.un).fb.keepP w).cell (o+4) M K|>.trans R.out.2.2.2.2.1;have bt:=((j.out.ex A.un).fb.keepP w).cell (o+5) M K|>.trans R.out.2.2.2.2.2;clear A;go_simp<;>with_reducible rfl);simp only[a8,a7,a6,aZ,aY])
 intro ba aD aW;clear aW;simp only[ae,au];have V:=O (j.out.ex aD.un);clear aD aI j;have aI:=V.out.box.cell;have bl:=aX;go_wp2_with (go_at_call 175;refine(fD y aU ax [59] P _ a9 _ a2 b l (a5.out.keep (V.out.fb.keepP w) (λ_ G _=>G)) w V.out.tab V.out.bu (by(try have bC:=a4.out);(try have bB:=a3.out);simp only[ac,ah,ai];omega)).mono ?_;rintro e u2 ⟨rfl,aQ,aP⟩;have aS:=O (V.out.wr aQ aP);clear aQ aP V)
 go_end0
 exact⟨rfl,by rw[<-aR.out];have:=aS.out.bu;rw[<-aA.out,<-aC.out]at this;simpa[aq]using this,aS.out.fb⟩
theorem G9 (nm:List UInt8) (ax ar:List St) (y:Ex) (aR:oP y) (P:Nat->Prop) (a:World) (aQ B C:Option Addr) (n c X ad V ab b i:Nat) (l:List UInt8) (ag:c7 a P (.slice aQ n c) [y]) (aJ:db a P (.slice B X ad) ax) (aI:db a P (.slice C V ab) ar) (w: ∀k,P k->k<b) (aG:dP a b) (I:Bu a b l) (S:List UInt8) (aH:dD (.mk 2 nm [y] ax ar) i=S) (bd:l.length+S.length<=1000000000):
  Calls prog 136 #[.pointer (some ⟨b,0,none⟩),.agg #[.int i64 2,.string (J nm),.slice aQ n c,.slice B X ad,.slice C V ab],.int i64 (i:Int)] a λe w'=>e=.returned (.tuple #[])/\Bu w' b (l++S)/\FB b a w':=by
 have aO:=O (show nm++[32,61,32]++b_ y++[59]=S from by rw[<-aH];rfl);have aT:nm.length+3+(b_ y).length+1=S.length:=by rw[<-aO.out];simp only[ac,ah,ai]
 clear aH;have aD:=ag.len;simp only[ah,ai]at aD;obtain rfl:n=1:=aD;obtain⟨ay,o,a0,aU,G,K,ap,ao,an,al,ak,aj,af⟩:=ag.at_ 0 Qd;simp only[aK,aV,bp,bE,cL]at ap ao an al ak aj af;obtain⟨a2,aW,rfl,_⟩:=af.form;have M:=O (aE ap (aE ao (aE an (aE al (aE ak aj)))));have a1:=O af;clear ap ao an al ak aj af;subst aU;have j:=O (show PS b a.heap.size a P #[.int i64 2,.string (J nm),.slice (some ⟨ay,o,none⟩) 1 c,.slice B X ad,.slice C V ab] (.slice (some ⟨ay,o,none⟩) 1 c) (.slice B X ad) (.slice C V ab) (.mk 2 nm [y] ax ar) l _ from⟨aw a 72 #[.int i64 2,.string (J nm),.slice (some ⟨ay,o,none⟩) 1 c,.slice B X ad,.slice C V ab],I.ext (Z a _),ag.keep (.of_ext (Z a _)) (λ_ A _=>A),aJ.keep (.of_ext (Z a _)) (λ_ A _=>A),aI.keep (.of_ext (Z a _)) (λ_ A _=>A),be (Z a _) (aM I.lt),aG.fb (be (Z a _) (aM I.lt)),bP I.lt,by decide,w⟩);have aF:=j.out.box.cell;clear I ag aG aJ aI;obtain⟨av,az⟩: ∃c,Hid (nm++[32,61,32]=c):=⟨_,O rfl⟩
 have aC:av.length=nm.length+3:=by rw[<-az.out,ac];(try rfl)
 have a5:J nm++(⟨#[32,61,32]⟩:ByteArray)=J av:=by rw[<-az.out];exact eh _ _
 have bb: ¬9223372036854775807<nm.length+3:=Qa
 have bf: ¬9223372036854775807<3+nm.length:=Qa
 have a9:(J nm).size=nm.length:=bm _;have ba:((⟨#[32,61,32]⟩:ByteArray)).size=3:=rfl;have aX:=O aC;clear aC;go_enter func136,ntmps136;go_wp2_with fail;refine aB 8 3 [] mixed Qb trivial ?_;repeat (refine sx ?_ (λa4 z=> ?_) ?_;rotate_left;(focus have bg:=(j.out.ex z.un).box.cell;have bn:=((j.out.ex z.un).fb.keepP w).cell (o) K G|>.trans M.out.1;have bl:=((j.out.ex z.un).fb.keepP w).cell (o+1) K G|>.trans M.out.2.1;have bk:=((j.out.ex z.un).fb.keepP w).cell (o+2) K G|>.trans M.out.2.2.1;have bj:=((j.out.ex z.un).fb.keepP w).cell (o+3) K G|>.trans M.out.2.2.2.1;have bi:=((j.out.ex z.un).fb.keepP w).cell (o+4) K G|>.trans M.out.2.2.2.2.1;have bh:=((j.out.ex z.un).fb.keepP w).cell (o+5) K G|>.trans M.out.2.2.2.2.2;clear z;go_simp<;>with_reducible rfl);simp only[a8,a7,a6,aZ,aY])
 intro a3 aA aS;clear aS;simp only[ae,au];have R:=O (j.out.ex aA.un);clear aA aF j;have aF:=R.out.box.cell;have bc:=aT;go_wp2_with (go_at_call 175;refine(fD y aR av [59] P _ a2 _ aW b l (a1.out.keep (R.out.fb.keepP w) (λ_ A _=>A)) w R.out.tab R.out.bu (by(try have bq:=aX.out);(try have bo:=Hzc2.out);simp only[ac,ah,ai];omega)).mono ?_;rintro e u2 ⟨rfl,aN,aL⟩;have aP:=O (R.out.wr aN aL);clear aN aL R)
 go_end0
 exact⟨rfl,by rw[<-aO.out];have:=aP.out.bu;rw[<-az.out]at this;simpa[aq]using this,aP.out.fb⟩
theorem Gc (nm:List UInt8) (X V:List St) (P:Nat->Prop) (a:World) (K B C:Option Addr) (n c o G j A b i:Nat) (l:List UInt8) (R:c7 a P (.slice K n c) []) (af:db a P (.slice B o G) X) (ae:db a P (.slice C j A) V) (an: ∀k,P k->k<b) (ab:dP a b) (z:Bu a b l) (S:List UInt8) (ad:dD (.mk 6 nm [] X V) i=S) (ap:l.length+S.length<=1000000000):
  Calls prog 136 #[.pointer (some ⟨b,0,none⟩),.agg #[.int i64 6,.string (J nm),.slice K n c,.slice B o G,.slice C j A],.int i64 (i:Int)] a λe w'=>e=.returned (.tuple #[])/\Bu w' b (l++S)/\FB b a w':=by
 have I:=R.len;simp only[ai]at I;obtain rfl:n=0:=I;have ak:=O (show[114,101,116,117,114,110]++[59]=S from by rw[<-ad];rfl);have ao:6+1=S.length:=by rw[<-ak.out];simp only[ac,ah,ai]
 clear ad;have M:=O (show PS b a.heap.size a P #[.int i64 6,.string (J nm),.slice K 0 c,.slice B o G,.slice C j A] (.slice K 0 c) (.slice B o G) (.slice C j A) (.mk 6 nm [] X V) l _ from⟨aw a 72 #[.int i64 6,.string (J nm),.slice K 0 c,.slice B o G,.slice C j A],z.ext (Z a _),R.keep (.of_ext (Z a _)) (λ_ w _=>w),af.keep (.of_ext (Z a _)) (λ_ w _=>w),ae.keep (.of_ext (Z a _)) (λ_ w _=>w),be (Z a _) (aM z.lt),ab.fb (be (Z a _) (aM z.lt)),bP z.lt,by decide,an⟩);have ar:=M.out.box.cell;clear z R ab af ae;go_enter func136,ntmps136;go_wp2_with ((go_at_call 91;refine(cV b l [114,101,116,117,114,110,59] _ M.out.bu (by(try have av:=Hzc1.out);(try have au:=Hzc2.out);(try simp only[ac,ah,ai]);omega)).mono ?_;rintro e u2 ⟨rfl,aj,ag⟩;have al:=O (M.out.wr aj ag);clear aj ag M))
 (try simp only[Exit.inBlock,Exit.then]);refine bodyPost_ret (results_none rfl _ _ _) rfl ?_
 exact⟨rfl,by rw[<-ak.out];have:=al.out.bu;simpa[aq]using this,al.out.fb⟩
theorem Gb (nm:List UInt8) (ao an:List St) (y:Ex) (aF:oP y) (P:Nat->Prop) (a:World) (aD B C:Option Addr) (n c R I M X b i:Nat) (l:List UInt8) (ad:c7 a P (.slice aD n c) [y]) (ay:db a P (.slice B R I) ao) (ax:db a P (.slice C M X) an) (w: ∀k,P k->k<b) (au:dP a b) (V:Bu a b l) (S:List UInt8) (av:dD (.mk 6 nm [y] ao an) i=S) (aN:l.length+S.length<=1000000000):
  Calls prog 136 #[.pointer (some ⟨b,0,none⟩),.agg #[.int i64 6,.string (J nm),.slice aD n c,.slice B R I,.slice C M X],.int i64 (i:Int)] a λe w'=>e=.returned (.tuple #[])/\Bu w' b (l++S)/\FB b a w':=by
 have aB:=O (show[114,101,116,117,114,110]++[32]++b_ y++[59]=S from by rw[<-av];rfl);have aL:6+1+(b_ y).length+1=S.length:=by rw[<-aB.out];simp only[ac,ah,ai]
 clear av;have ar:=ad.len;simp only[ah,ai]at ar;obtain rfl:n=1:=ar;obtain⟨ap,o,a0,aG,A,G,al,ak,aj,ag,af,ae,ab⟩:=ad.at_ 0 Qd;simp only[aK,aV,bp,bE,cL]at al ak aj ag af ae ab;obtain⟨aJ,aH,rfl,_⟩:=ab.form;have K:=O (aE al (aE ak (aE aj (aE ag (aE af ae)))));have aI:=O ab;clear al ak aj ag af ae ab;subst aG;have j:=O (show PS b a.heap.size a P #[.int i64 6,.string (J nm),.slice (some ⟨ap,o,none⟩) 1 c,.slice B R I,.slice C M X] (.slice (some ⟨ap,o,none⟩) 1 c) (.slice B R I) (.slice C M X) (.mk 6 nm [y] ao an) l _ from⟨aw a 72 #[.int i64 6,.string (J nm),.slice (some ⟨ap,o,none⟩) 1 c,.slice B R I,.slice C M X],V.ext (Z a _),ad.keep (.of_ext (Z a _)) (λ_ z _=>z),ay.keep (.of_ext (Z a _)) (λ_ z _=>z),ax.keep (.of_ext (Z a _)) (λ_ z _=>z),be (Z a _) (aM V.lt),au.fb (be (Z a _) (aM V.lt)),bP V.lt,by decide,w⟩);have aO:=j.out.box.cell;clear V ad au ay ax;go_enter func136,ntmps136;have aU:=(j.out.fb.keepP w).cell (o) G A|>.trans K.out.1;have aT:=(j.out.fb.keepP w).cell (o+1) G A|>.trans K.out.2.1;have aS:=(j.out.fb.keepP w).cell (o+2) G A|>.trans K.out.2.2.1;have aR:=(j.out.fb.keepP w).cell (o+3) G A|>.trans K.out.2.2.2.1;have aQ:=(j.out.fb.keepP w).cell (o+4) G A|>.trans K.out.2.2.2.2.1;have aP:=(j.out.fb.keepP w).cell (o+5) G A|>.trans K.out.2.2.2.2.2;go_wp2_with (go_at_call 175;refine(fD y aF [114,101,116,117,114,110,32] [59] P _ aJ _ aH b l (aI.out.keep (j.out.fb.keepP w) (λ_ z _=>z)) w j.out.tab j.out.bu (by(try have aX:=Hzc1.out);(try have aW:=Hzc2.out);simp only[ac,ah,ai];omega)).mono ?_;rintro e u2 ⟨rfl,aA,az⟩;have aC:=O (j.out.wr aA az);clear aA az j)
 go_end0
 exact⟨rfl,by rw[<-aB.out];have:=aC.out.bu;simpa[aq]using this,aC.out.fb⟩
theorem G5 (nm:List UInt8) (ao an:List St) (y:Ex) (aF:oP y) (P:Nat->Prop) (a:World) (aD B C:Option Addr) (n c R I M X b i:Nat) (l:List UInt8) (ad:c7 a P (.slice aD n c) [y]) (ay:db a P (.slice B R I) ao) (ax:db a P (.slice C M X) an) (w: ∀k,P k->k<b) (au:dP a b) (V:Bu a b l) (S:List UInt8) (av:dD (.mk 7 nm [y] ao an) i=S) (aN:l.length+S.length<=1000000000):
  Calls prog 136 #[.pointer (some ⟨b,0,none⟩),.agg #[.int i64 7,.string (J nm),.slice aD n c,.slice B R I,.slice C M X],.int i64 (i:Int)] a λe w'=>e=.returned (.tuple #[])/\Bu w' b (l++S)/\FB b a w':=by
 have aB:=O (show b_ y++[59]=S from by rw[<-av];rfl);have aL:(b_ y).length+1=S.length:=by rw[<-aB.out];simp only[ac,ah,ai]
 clear av;have ar:=ad.len;simp only[ah,ai]at ar;obtain rfl:n=1:=ar;obtain⟨ap,o,a0,aG,A,G,al,ak,aj,ag,af,ae,ab⟩:=ad.at_ 0 Qd;simp only[aK,aV,bp,bE,cL]at al ak aj ag af ae ab;obtain⟨aJ,aH,rfl,_⟩:=ab.form;have K:=O (aE al (aE ak (aE aj (aE ag (aE af ae)))));have aI:=O ab;clear al ak aj ag af ae ab;subst aG;have j:=O (show PS b a.heap.size a P #[.int i64 7,.string (J nm),.slice (some ⟨ap,o,none⟩) 1 c,.slice B R I,.slice C M X] (.slice (some ⟨ap,o,none⟩) 1 c) (.slice B R I) (.slice C M X) (.mk 7 nm [y] ao an) l _ from⟨aw a 72 #[.int i64 7,.string (J nm),.slice (some ⟨ap,o,none⟩) 1 c,.slice B R I,.slice C M X],V.ext (Z a _),ad.keep (.of_ext (Z a _)) (λ_ z _=>z),ay.keep (.of_ext (Z a _)) (λ_ z _=>z),ax.keep (.of_ext (Z a _)) (λ_ z _=>z),be (Z a _) (aM V.lt),au.fb (be (Z a _) (aM V.lt)),bP V.lt,by decide,w⟩);have aO:=j.out.box.cell;clear V ad au ay ax;go_enter func136,ntmps136;have aU:=(j.out.fb.keepP w).cell (o) G A|>.trans K.out.1;have aT:=(j.out.fb.keepP w).cell (o+1) G A|>.trans K.out.2.1;have aS:=(j.out.fb.keepP w).cell (o+2) G A|>.trans K.out.2.2.1;have aR:=(j.out.fb.keepP w).cell (o+3) G A|>.trans K.out.2.2.2.1;have aQ:=(j.out.fb.keepP w).cell (o+4) G A|>.trans K.out.2.2.2.2.1;have aP:=(j.out.fb.keepP w).cell (o+5) G A|>.trans K.out.2.2.2.2.2;go_wp2_with (go_at_call 175;refine(fD y aF [] [59] P _ aJ _ aH b l (aI.out.keep (j.out.fb.keepP w) (λ_ z _=>z)) w j.out.tab j.out.bu (by(try have aX:=Hzc1.out);(try have aW:=Hzc2.out);simp only[ac,ah,ai];omega)).mono ?_;rintro e u2 ⟨rfl,aA,az⟩;have aC:=O (j.out.wr aA az);clear aA az j)
 go_end0
 exact⟨rfl,by rw[<-aB.out];have:=aC.out.bu;simpa[aq]using this,aC.out.fb⟩
theorem G8 (nm:List UInt8) (aR aQ:List St) (y K:Ex) (bf:oP y) (bd:oP K) (P:Nat->Prop) (j:World) (bc B C:Option Addr) (n c ag ar af ap b i:Nat) (l:List UInt8) (aj:c7 j P (.slice bc n c) [y,K]) (a4:db j P (.slice B ag ar) aR) (a3:db j P (.slice C af ap) aQ) (a: ∀k,P k->k<b) (a1:dP j b) (ak:Bu j b l) (S:List UInt8) (a2:dD (.mk 3 nm [y,K] aR aQ) i=S) (bK:l.length+S.length<=1000000000):
  Calls prog 136 #[.pointer (some ⟨b,0,none⟩),.agg #[.int i64 3,.string (J nm),.slice bc n c,.slice B ag ar,.slice C af ap],.int i64 (i:Int)] j λe w'=>e=.returned (.tuple #[])/\Bu w' b (l++S)/\FB b j w':=by
 have ba:=O (show nm++[91]++b_ y++[93]++([32,61,32]++b_ K++[59])=S from by rw[<-a2];rfl);have bJ:nm.length+1+(b_ y).length+1+(3+(b_ K).length+1)=S.length:=by rw[<-ba.out];simp only[ac,ah,ai]
 clear a2;have aX:=aj.len;simp only[ah,ai]at aX;obtain rfl:n=2:=aX;obtain⟨aS,o,a0,bi,R,X,aP,aN,aJ,aH,aF,aC,ay⟩:=aj.at_ 0 Qd;simp only[aK,aV,bp,bE,cL]at aP aN aJ aH aF aC ay;obtain⟨bA,bt,rfl,_⟩:=ay.form;subst bi;obtain⟨bN,bD,a5,al,M,V,aO,aL,aI,aG,aD,aA,ax⟩:=aj.at_ 1 Qd;simp only[aK,aV,bp,bE,cL]at aO aL aI aG aD aA ax;obtain⟨bz,br,rfl,_⟩:=ax.form;injection al with al;injection al with al bh;subst al bh;have ab:=O (aE aP (aE aN (aE aJ (aE aH (aE aF aC)))));have bx:=O ay;clear aP aN aJ aH aF aC ay;have I:=O (aE aO (aE aL (aE aI (aE aG (aE aD aA)))));have bw:=O ax;clear aO aL aI aG aD aA ax;have z:=O (show PS b j.heap.size j P #[.int i64 3,.string (J nm),.slice (some ⟨aS,o,none⟩) 2 c,.slice B ag ar,.slice C af ap] (.slice (some ⟨aS,o,none⟩) 2 c) (.slice B ag ar) (.slice C af ap) (.mk 3 nm [y,K] aR aQ) l _ from⟨aw j 72 #[.int i64 3,.string (J nm),.slice (some ⟨aS,o,none⟩) 2 c,.slice B ag ar,.slice C af ap],ak.ext (Z j _),aj.keep (.of_ext (Z j _)) (λ_ A _=>A),a4.keep (.of_ext (Z j _)) (λ_ A _=>A),a3.keep (.of_ext (Z j _)) (λ_ A _=>A),be (Z j _) (aM ak.lt),a1.fb (be (Z j _) (aM ak.lt)),bP ak.lt,by decide,a⟩);have av:=z.out.box.cell;clear ak aj a1 a4 a3;obtain⟨az,aT⟩: ∃c,Hid (nm++[91]=c):=⟨_,O rfl⟩
 have aW:az.length=nm.length+1:=by rw[<-aT.out,ac];(try rfl)
 have bF:J nm++(⟨#[91]⟩:ByteArray)=J az:=by rw[<-aT.out];exact eh _ _
 have bI: ¬9223372036854775807<nm.length+1:=Qa
 have bL: ¬9223372036854775807<1+nm.length:=Qa
 have bG:(J nm).size=nm.length:=bm _;have bH:((⟨#[91]⟩:ByteArray)).size=1:=rfl;have a9:=O aW;clear aW;go_enter func136,ntmps136;go_wp2_with fail;refine aB 8 3 [] mixed Qb trivial ?_;repeat (refine sx ?_ (λbC G=> ?_) ?_;rotate_left;(focus have bM:=(z.out.ex G.un).box.cell;have bq:=((z.out.ex G.un).fb.keepP a).cell (o) X R|>.trans ab.out.1;have bo:=((z.out.ex G.un).fb.keepP a).cell (o+1) X R|>.trans ab.out.2.1;have bn:=((z.out.ex G.un).fb.keepP a).cell (o+2) X R|>.trans ab.out.2.2.1;have bl:=((z.out.ex G.un).fb.keepP a).cell (o+3) X R|>.trans ab.out.2.2.2.1;have bk:=((z.out.ex G.un).fb.keepP a).cell (o+4) X R|>.trans ab.out.2.2.2.2.1;have bj:=((z.out.ex G.un).fb.keepP a).cell (o+5) X R|>.trans ab.out.2.2.2.2.2;clear G;go_simp<;>with_reducible rfl);simp only[a8,a7,a6,aZ,aY])
 intro bB aU bg;clear bg;simp only[ae,au];have ad:=O (z.out.ex aU.un);clear aU av z;have av:=ad.out.box.cell;go_wp2_with (first|(go_at_call 175;refine(fD y bf az [93] P _ bA _ bt b l (bx.out.keep (ad.out.fb.keepP a) (λ_ A _=>A)) a ad.out.tab ad.out.bu (by(try have a5:=a9.out);(try have bv:=Hzc2.out);simp only[ac,ah,ai];omega)).mono ?_;rintro e u2 ⟨rfl,ao,an⟩;have w:=O (ad.out.wr ao an);clear ao an ad;clear av;have av:=w.out.box.cell;have bq:=(w.out.fb.keepP a).cell (o+6) V M|>.trans I.out.1;have bo:=(w.out.fb.keepP a).cell (o+6+1) V M|>.trans I.out.2.1;have bn:=(w.out.fb.keepP a).cell (o+6+2) V M|>.trans I.out.2.2.1;have bl:=(w.out.fb.keepP a).cell (o+6+3) V M|>.trans I.out.2.2.2.1;have bk:=(w.out.fb.keepP a).cell (o+6+4) V M|>.trans I.out.2.2.2.2.1;have bj:=(w.out.fb.keepP a).cell (o+6+5) V M|>.trans I.out.2.2.2.2.2)|(go_at_call 175;refine(fD K bd [32,61,32] [59] P _ bz _ br b (l++(az++b_ y++[93])) (bw.out.keep (w.out.fb.keepP a) (λ_ A _=>A)) a w.out.tab w.out.bu (by(try have a5:=a9.out);(try have bv:=Hzc2.out);simp only[ac,ah,ai];omega)).mono ?_;rintro e u3 ⟨rfl,ao,an⟩;have bb:=O (w.out.wr ao an);clear ao an w))
 go_end0
 exact⟨rfl,by rw[<-ba.out];have:=bb.out.bu;rw[<-aT.out]at this;simpa[aq]using this,bb.out.fb⟩
theorem G6 (nm:List UInt8) (R au:List St) (y:Ex) (aI:oP y) (ay:mH R) (P:Nat->Prop) (a:World) (aH B C:Option Addr) (n c A M I af b i:Nat) (l:List UInt8) (aj:c7 a P (.slice aH n c) [y]) (aD:db a P (.slice B A M) R) (aC:db a P (.slice C I af) au) (o: ∀k,P k->k<b) (aA:dP a b) (ab:Bu a b l) (S:List UInt8) (aB:dD (.mk 5 nm [y] R au) i=S) (aS:l.length+S.length<=1000000000):
  Calls prog 136 #[.pointer (some ⟨b,0,none⟩),.agg #[.int i64 5,.string (J nm),.slice aH n c,.slice B A M,.slice C I af],.int i64 (i:Int)] a λe w'=>e=.returned (.tuple #[])/\Bu w' b (l++S)/\FB b a w':=by
 have aF:=O (show[119,104,105,108,101,32]++b_ y++[32]++fu i (bK R (i+1))=S from by rw[<-aB];rfl);have aR:6+(b_ y).length+1+(fu i (bK R (i+1))).length=S.length:=by rw[<-aF.out];simp only[ac,ah,ai]
 clear aB;have ax:=aj.len;simp only[ah,ai]at ax;obtain rfl:n=1:=ax;obtain⟨av,w,a0,aJ,G,K,ar,ap,ao,an,al,ak,ag⟩:=aj.at_ 0 Qd;simp only[aK,aV,bp,bE,cL]at ar ap ao an al ak ag;obtain⟨aQ,aL,rfl,_⟩:=ag.form;have V:=O (aE ar (aE ap (aE ao (aE an (aE al ak)))));have aP:=O ag;clear ar ap ao an al ak ag;subst aJ;have j:=O (show PS b a.heap.size a P #[.int i64 5,.string (J nm),.slice (some ⟨av,w,none⟩) 1 c,.slice B A M,.slice C I af] (.slice (some ⟨av,w,none⟩) 1 c) (.slice B A M) (.slice C I af) (.mk 5 nm [y] R au) l _ from⟨aw a 72 #[.int i64 5,.string (J nm),.slice (some ⟨av,w,none⟩) 1 c,.slice B A M,.slice C I af],ab.ext (Z a _),aj.keep (.of_ext (Z a _)) (λ_ z _=>z),aD.keep (.of_ext (Z a _)) (λ_ z _=>z),aC.keep (.of_ext (Z a _)) (λ_ z _=>z),be (Z a _) (aM ab.lt),aA.fb (be (Z a _) (aM ab.lt)),bP ab.lt,by decide,o⟩);have az:=j.out.box.cell;clear ab aj aA aD aC;unfold mH at ay;go_enter func136,ntmps136;have aZ:=(j.out.fb.keepP o).cell (w) K G|>.trans V.out.1;have aY:=(j.out.fb.keepP o).cell (w+1) K G|>.trans V.out.2.1;have aX:=(j.out.fb.keepP o).cell (w+2) K G|>.trans V.out.2.2.1;have aW:=(j.out.fb.keepP o).cell (w+3) K G|>.trans V.out.2.2.2.1;have aU:=(j.out.fb.keepP o).cell (w+4) K G|>.trans V.out.2.2.2.2.1;have aT:=(j.out.fb.keepP o).cell (w+5) K G|>.trans V.out.2.2.2.2.2;go_wp2_with (first|(go_at_call 175;refine(fD y aI [119,104,105,108,101,32] [32] P _ aQ _ aL b l (aP.out.keep (j.out.fb.keepP o) (λ_ z _=>z)) o j.out.tab j.out.bu (by(try have aO:=Hzc1.out);(try have aN:=Hzc2.out);simp only[ac,ah,ai];omega)).mono ?_;rintro e u1 ⟨rfl,ae,ad⟩;have X:=O (j.out.wr ae ad);clear ae ad j;clear az;have az:=X.out.box.cell)|(go_at_call 94;refine(ay P _ B A M b i (l++([119,104,105,108,101,32]++b_ y++[32])) X.out.rb o X.out.tab X.out.bu (by(try have aO:=Hzc1.out);(try have aN:=Hzc2.out);simp only[ac,ah,ai];omega)).mono ?_;rintro e u2 ⟨rfl,ae,ad⟩;have aG:=O (X.out.wr ae ad);clear ae ad X))
 go_end0
 exact⟨rfl,by rw[<-aF.out];have:=aG.out.bu;simpa[aq]using this,aG.out.fb⟩
theorem G7 (nm:List UInt8) (V R:List St) (xs:List Ex) (X:wc (.mk 4 nm xs V R)) (P:Nat->Prop) (a:World) (G B C:Option Addr) (n c w A o z b i:Nat) (l:List UInt8) (ae:c7 a P (.slice G n c) xs) (ad:db a P (.slice B w A) V) (ac:db a P (.slice C o z) R) (af: ∀k,P k->k<b) (I:dP a b) (M:Bu a b l) (S:List UInt8) (ab:dD (.mk 4 nm xs V R) i=S) (aj:l.length+S.length<=1000000000):
  Calls prog 136 #[.pointer (some ⟨b,0,none⟩),.agg #[.int i64 4,.string (J nm),.slice G n c,.slice B w A,.slice C o z],.int i64 (i:Int)] a λe w'=>e=.returned (.tuple #[])/\Bu w' b (l++S)/\FB b a w':=by
 unfold wc at X;have j:=O (show PS b a.heap.size a P #[.int i64 4,.string (J nm),.slice G n c,.slice B w A,.slice C o z] (.slice G n c) (.slice B w A) (.slice C o z) (.mk 4 nm xs V R) l _ from⟨aw a 72 #[.int i64 4,.string (J nm),.slice G n c,.slice B w A,.slice C o z],M.ext (Z a _),ae.keep (.of_ext (Z a _)) (λ_ K _=>K),ad.keep (.of_ext (Z a _)) (λ_ K _=>K),ac.keep (.of_ext (Z a _)) (λ_ K _=>K),be (Z a _) (aM M.lt),I.fb (be (Z a _) (aM M.lt)),bP M.lt,by decide,af⟩);have ak:=j.out.box.cell;clear M ae I ad ac;go_enter func136,ntmps136;go_wp2_with (go_at_call 176;refine(X P _ G B C n c w A o z b i l j.out.re j.out.rb j.out.rl af j.out.tab j.out.bu (by rw[ab];exact aj)).mono ?_;rintro e u1 ⟨rfl,ah,ag⟩;have ai:=O (j.out.wr ah ag);clear ah ag j)
 go_end0
 exact⟨rfl,by rw[<-ab];exact ai.out.bu,ai.out.fb⟩
end
end Go.Proofs.YtddomeddabfinaaGreatDoor
