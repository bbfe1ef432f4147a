/- Parts of the proof. -/
import Derived.Lib.AppendIntMem
import Derived.Test.YtoedmpgicdekmaaGreatDoorCo10
import Derived.Test.YtoedmpgicdekmaaGreatDoorCo11
import Derived.Test.YtoedmpgicdekmaaGreatDoorCo12
set_option maxRecDepth 100000
set_option maxHeartbeats 8000000
set_option linter.all false
namespace Go.Proofs.YtoedmpgicdekmaaGreatDoor
open IntKind(i64)
open Go.Proofs.Tryz
section
open Go.RowKit
def eY (sep:List UInt8):List (List UInt8)->List UInt8
 | []=>[]
 |x::r=>x++r.flatMap (λy=>sep++y)
theorem xu (a:List UInt8) (l:List (List UInt8)) (x:List UInt8):eY a (l++[x])=eY a l++((if l=[]then[]else a)++x):=by
 cases l with
 |nil=>simp[eY]
 |cons y r=>simp[eY]
def pL (b:Bool) (s:List UInt8):List UInt8:=if b then 40::(s++[41])else s
def wS (k:Int) (op nm tx:List UInt8) (v:Int) (ps:List Int) (ss:List (List UInt8)):List UInt8:=
 if k=1 then mf v.toNat
 else if k=2 then nt tx
 else if k=3 then nm
 else if k=4 then nm++[91]++ss.headD []++[93]
 else if k=5 then nm++[40]++eY [44,32] ss++[41]
 else if k=6 then op++pL (decide (ps.headD 0<7)) (ss.headD [])
 else if k=7 then pL (decide (ps.headD 0<mX op)) (ss.headD [])++([32]++op++[32])++pL (decide (ps.tail.headD 0<=mX op)) (ss.tail.headD [])
 else[]
mutual
def de:Ex->List UInt8| .mk k op nm tx v a=>wS k op nm tx v (a.map Ex.prec) (f7 a)
def f7:List Ex->List (List UInt8)| []=>[]|x::r=>de x::f7 r
end
theorem nW: ∀l,f7 l=l.map de
 | []=>rfl
 |x::r=>by rw[f7,nW r];rfl
theorem Cz: ∀n,Lib.decDigits n=mf n:=λn=>by
 induction n using Nat.strongRecOn with
 | _ n ih=>
  rw[Lib.decDigits,mf];split
  ·rfl
  ·rw[ih (n/10) J]
theorem wX (l:List UInt8):(nt l).length<=2*l.length+2:=by
 have:=(jx l).2;simp only[nt,ag,H,ai];omega
theorem vH {v:Int} (a:v<=2147483647):(mf v.toNat).length<=10:=pT 9 v.toNat J
theorem qf (b:Bool) (s:List UInt8):(pL b s).length<=s.length+2:=by
 cases b<;>simp[pL]
theorem sh (a:List UInt8): ∀l:List (List UInt8),(eY a l).length<=(l.map λs=>s.length+a.length).sum
 | []=>by simp[eY]
 |x::r=>by
  have:(r.flatMap λd=>a++d).length=(r.map λs=>s.length+a.length).sum:=by
   rw[jr]
   congr 1
   apply List.map_congr_left;intro d _;simp;omega
  simp only[eY,H,bL,dF,this];omega
theorem fJ {P:Nat->Prop} {o b c:World} (a:dM P o b) (k:dM P b c):dM P o c:=⟨ay a.1 k.1,λx h d=>(k.2 x h (aA d a.1)).trans (a.2 x h d)⟩
def ew (w:World) (b:Nat):Prop:=Lib.TabIs prog w "internal/strconv.uint64pow10" .u64 Lib.pow10Tab/\3<b
theorem ew.fb {h w':World} {b:Nat} (d:ew h b) (w:FB b h w'):ew w' b:=by
 refine⟨?_,d.2⟩;have a:=d.1;have o:prog.globalNamed "internal/strconv.uint64pow10" =some 3:=Qb
 have u:=w.below.block _ d.2;unfold Lib.TabIs World.var? at a⊢;rw[o]at a⊢;simp only[fF]at a⊢;rw[u];exact a
theorem vq (n:Int) (u:0<=n) (o:n<=9223372036854775807) (a:World) (b:Nat) (h:ew a b):Calls prog 119 #[.int i64 n] a λe w'=>e=.returned (.string (Z (mf n.toNat)))/\au a w':=by
 refine(Tryz.strconv_Itoa n J o a h.1).mono ?_;rintro e w' ⟨rfl,k,d,rfl⟩;have:Lib.itoa n=mf n.toNat:=by unfold Lib.itoa;rw[if_neg J,Cz]
 rw[this];exact⟨rfl,Lib.below_grow _ a (ah _) k d⟩
structure PC (b px:Nat) (w0:World) (P:Nat->Prop) (t:TypeId) (cs:Array Value) (v:Value) (xs:List Ex) (l:List UInt8) (W:World):Prop where
 box:aO W px t cs
 bu:Bu W b l
 rd:dS W P v xs
 fb:FB b w0 W
 tab:ew W b
 ne:px≠b
 tt:t≠5
 hP: ∀k,P k->k<b
section
variable {b px:Nat} {w0 W W':World} {P:Nat->Prop} {t:TypeId} {cs:Array Value} {v:Value} {xs:List Ex} {l l':List UInt8}
theorem PC.wr (a:PC b px w0 P t cs v xs l W) (o:Bu W' b l') (d:FB b W W'):PC b px w0 P t cs v xs l' W':=
 ⟨d.keep _ _ _ a.ne a.tt a.box,o,a.rd.keep (d.keepP a.hP) (λ_ h _=>h),a.fb.trans d,a.tab.fb d,a.ne,a.tt,a.hP⟩
theorem PC.ex (a:PC b px w0 P t cs v xs l W) (d:au W W'):PC b px w0 P t cs v xs l W':=a.wr (a.bu.ext d) (aW d (aG a.bu.lt))
end
theorem oD {b:Nat} {d w':World} (a:FB b d.drew w'):FB b d w':=⟨⟨a.below.os,a.below.tape,a.below.output,a.below.size,a.below.block⟩,a.keep⟩
section
variable {P:Program} {ops:Array Oper} {Q:Exit->Act->World->Prop}
theorem ju {id:Nat} {a:Act} {o:World} (b m f:Nat) (l:List Av) (x:Nat) (G:P.follows .mixedOrders=true) (F:Ig ops m a.tmps.size=true) (R:b<=o.heap.size)
  (A:lY au l) (z:qw x (λa c=>b<=a.heap.size->FB b a c) l)
  (h:fM P Q ops f (gg l) (some x) (λ_=>false) au (λa c=>b<=a.heap.size->FB b a c) o.drew (λa y=> ∀w',FB b o w'->(∀p∈y,p.2 w')->wpList P ops Q (ops.toList.drop m) a w') (ops.toList.take m) 0 a []):(Code.region id ops true).wp P Q a o:=by
 refine jG m f (gg l) (some x) au (λa c=>b<=a.heap.size->FB b a c) G F aI (λa c V u w ha=>(u ha).trans (w (ay ha (u ha).below.size))) (λa c h ha=>aW h ha) (λ_ _ _=>sJ) A.out z.out ?_;refine fM.fin (λa y h w' u w=>h w' ?_ w) _ _ _ _ h;have d:=u R;exact⟨⟨d.below.os,d.below.tape,d.below.output,d.below.size,d.below.block⟩,d.keep⟩
end
def pY (x:Ex):Prop:= ∀(P:Nat->Prop) (w:World) (A:Option Addr) (n c b:Nat) (l:List UInt8),dS w P (.slice A n c) x.args->(∀k,P k->k<b)->ew w b->Bu w b l->l.length+(de x).length<=1000000000->
 Calls prog 241 #[.pointer (some ⟨b,0,none⟩),.agg #[.int i64 x.k,.string (Z x.op),.string (Z x.nm),.string (Z x.tx),.int i64 x.v,.slice A n c]] w λe w'=>e=.returned (.tuple #[])/\Bu w' b (l++de x)/\FB b w w'
theorem tu (x:Ex) (I:pY x) (F:Bool) (P:Nat->Prop) (a:World) (w:Option Addr) (n c b:Nat) (l:List UInt8) (af:dS a P (.slice w n c) x.args) (V: ∀k,P k->k<b) (ae:ew a b) (A:Bu a b l) (R:l.length+(pL F (de x)).length<=1000000000):
  Calls prog 256 #[.pointer (some ⟨b,0,none⟩),.agg #[.int i64 x.k,.string (Z x.op),.string (Z x.nm),.string (Z x.tx),.int i64 x.v,.slice w n c],.bool F] a λe w'=>e=.returned (.tuple #[])/\Bu w' b (l++pL F (de x))/\FB b a w':=by
 have X:=G I;clear I;unfold pY at X;generalize de x=S at*;generalize al:x.args=xs at*;generalize x.k=k at*;generalize x.op=op at*;generalize x.nm=nm at*;generalize x.tx=tx at*;generalize x.v=v at*;have u:=G (show PC b a.heap.size a P 206 #[.int i64 k,.string (Z op),.string (Z nm),.string (Z tx),.int i64 v,.slice w n c] (.slice w n c) xs l _ from⟨aq a 206 #[.int i64 k,.string (Z op),.string (Z nm),.string (Z tx),.int i64 v,.slice w n c],A.ext (aa a _),af.keep (.of_ext (aa a _)) (λ_ aj _=>aj),aW (aa a _) (aG A.lt),ae.fb (aW (aa a _) (aG A.lt)),bW A.lt,by decide,V⟩);have ad:=u.out.box.cell;clear A af ae
 cases F with
 |true=>
  have R:l.length+(S.length+2)<=1000000000:=by simpa[pL]using R
  go_enter func256,ntmps256;go_wp2_with (first|(go_at_call 118;refine(c_ b l [40] _ u.out.bu (by simp only[ag,ai];omega)).mono ?_;rintro e u1 ⟨rfl,o,d⟩;have z:=G (u.out.wr o d);clear o d u;clear ad;have ad:=z.out.box.cell)|(go_at_call 241;refine(X.out P _ w n c b (l++[40]) z.out.rd V z.out.tab z.out.bu (by simp only[H,ag,ai];omega)).mono ?_;rintro e u2 ⟨rfl,o,d⟩;have y:=G (z.out.wr o d);clear o d z)|(go_at_call 118;refine(c_ b (l++[40]++S) [41] _ y.out.bu (by simp only[H,ag,ai];omega)).mono ?_;rintro e u3 ⟨rfl,o,d⟩;have ah:=G (y.out.wr o d);clear o d y))
  go_end0
  exact⟨rfl,by have:=ah.out.bu;simpa[pL,aL]using this,ah.out.fb⟩
 |false=>
  have R:l.length+S.length<=1000000000:=R;go_enter func256,ntmps256;go_wp2_with (go_at_call 241;refine(X.out P _ w n c b l u.out.rd V u.out.tab u.out.bu J).mono ?_;rintro e u2 ⟨rfl,o,d⟩;have y:=G (u.out.wr o d);clear o d u)
  go_end0
  exact⟨rfl,y.out.bu,y.out.fb⟩
theorem JB (op nm tx:List UInt8) (v:Int) (xs:List Ex) (ao:0<=v) (A:v<=2147483647) (P:Nat->Prop) (a:World) (w:Option Addr) (n c b:Nat) (l:List UInt8) (I:dS a P (.slice w n c) xs) (al: ∀k,P k->k<b) (V:ew a b) (u:Bu a b l) (S:List UInt8) (X:de (.mk 1 op nm tx v xs)=S) (az:l.length+S.length<=1000000000):
  Calls prog 241 #[.pointer (some ⟨b,0,none⟩),.agg #[.int i64 1,.string (Z op),.string (Z nm),.string (Z tx),.int i64 v,.slice w n c]] a λe w'=>e=.returned (.tuple #[])/\Bu w' b (l++S)/\FB b a w':=by
 have ad:=G (show mf v.toNat=S from by rw[<-X];rfl);have ay:(mf v.toNat).length=S.length:=by rw[ad.out]
 clear X;have o:=G (show PC b a.heap.size a P 206 #[.int i64 1,.string (Z op),.string (Z nm),.string (Z tx),.int i64 v,.slice w n c] (.slice w n c) xs l _ from⟨aq a 206 #[.int i64 1,.string (Z op),.string (Z nm),.string (Z tx),.int i64 v,.slice w n c],u.ext (aa a _),I.keep (.of_ext (aa a _)) (λ_ ai _=>ai),aW (aa a _) (aG u.lt),V.fb (aW (aa a _) (aG u.lt)),bW u.lt,by decide,al⟩);have R:=o.out.box.cell;clear u I V;have au:=G (λa ap=>vq v ao J a b ap);generalize mf v.toNat=D at*;go_enter func241,ntmps241;go_wp2_with fail;refine aB 6 3 [(5,λx=>x=.string (Z D),λ_ _=>True)] mixed Qb ⟨λ_ _ _ _ _=>trivial,trivial⟩ ?_;repeat (refine sx ?_ (λah d=> ?_) ?_;rotate_left;(focus have ar:=(o.out.ex d.un).box.cell;clear d;go_simp<;>with_reducible rfl);simp only[bE,bD,bC,bB,bA])
 refine so (λag d z K am=> ?_) ?_
 ·have aj:=(o.out.ex d.un).tab;clear z d;go_simp;refine(au.out ag aj).mono ?_;rintro e ax ⟨rfl,an⟩;exact am _ _ an rfl trivial
 rintro _ rfl;simp only[bE,bD,bC,bB,bA];repeat (refine sx ?_ (λah d=> ?_) ?_;rotate_left;(focus have ar:=(o.out.ex d.un).box.cell;clear d;go_simp<;>with_reducible rfl);simp only[bE,bD,bC,bB,bA])
 intro av F z;clear z;simp only[ae,aw];have y:=G (o.out.ex F.un);clear F R o;have R:=y.out.box.cell;go_wp2_with ((go_at_call 118;refine(c_ b l D _ y.out.bu J).mono ?_;rintro e u2 ⟨rfl,A,H⟩;have af:=G (y.out.wr A H);clear A H y))
 go_end0
 exact⟨rfl,by rw[<-ad.out];have:=af.out.bu;exact this,af.out.fb⟩
theorem JA (op nm tx:List UInt8) (v:Int) (xs:List Ex) (ay:tx.length<=128) (P:Nat->Prop) (a:World) (w:Option Addr) (n c b:Nat) (l:List UInt8) (X:dS a P (.slice w n c) xs) (aj: ∀k,P k->k<b) (R:ew a b) (u:Bu a b l) (S:List UInt8) (V:de (.mk 2 op nm tx v xs)=S) (av:l.length+S.length<=1000000000):
  Calls prog 241 #[.pointer (some ⟨b,0,none⟩),.agg #[.int i64 2,.string (Z op),.string (Z nm),.string (Z tx),.int i64 v,.slice w n c]] a λe w'=>e=.returned (.tuple #[])/\Bu w' b (l++S)/\FB b a w':=by
 have ad:=G (show nt tx=S from by rw[<-V];rfl);have au:(nt tx).length=S.length:=by rw[ad.out]
 clear V;have o:=G (show PC b a.heap.size a P 206 #[.int i64 2,.string (Z op),.string (Z nm),.string (Z tx),.int i64 v,.slice w n c] (.slice w n c) xs l _ from⟨aq a 206 #[.int i64 2,.string (Z op),.string (Z nm),.string (Z tx),.int i64 v,.slice w n c],u.ext (aa a _),X.keep (.of_ext (aa a _)) (λ_ ai _=>ai),aW (aa a _) (aG u.lt),R.fb (aW (aa a _) (aG u.lt)),bW u.lt,by decide,aj⟩);have F:=o.out.box.cell;clear u X R;have ao:=G (λa=>zl tx J a);generalize nt tx=D at*;go_enter func241,ntmps241;go_wp2_with fail;refine aB 6 3 [(5,λx=>x=.string (Z D),λ_ _=>True)] mixed Qb ⟨λ_ _ _ _ _=>trivial,trivial⟩ ?_;repeat (refine sx ?_ (λah d=> ?_) ?_;rotate_left;(focus have an:=(o.out.ex d.un).box.cell;clear d;go_simp<;>with_reducible rfl);simp only[bE,bD,bC,bB,bA])
 refine so (λag d z K al=> ?_) ?_
 ·have ax:=(o.out.ex d.un).tab;clear z d;go_simp;refine(ao.out ag).mono ?_;rintro e ar ⟨rfl,am⟩;exact al _ _ am rfl trivial
 rintro _ rfl;simp only[bE,bD,bC,bB,bA];repeat (refine sx ?_ (λah d=> ?_) ?_;rotate_left;(focus have an:=(o.out.ex d.un).box.cell;clear d;go_simp<;>with_reducible rfl);simp only[bE,bD,bC,bB,bA])
 intro ap A z;clear z;simp only[ae,aw];have y:=G (o.out.ex A.un);clear A F o;have F:=y.out.box.cell;go_wp2_with ((go_at_call 118;refine(c_ b l D _ y.out.bu J).mono ?_;rintro e u2 ⟨rfl,H,I⟩;have af:=G (y.out.wr H I);clear H I y))
 go_end0
 exact⟨rfl,by rw[<-ad.out];have:=af.out.bu;exact this,af.out.fb⟩
theorem Jz (op nm tx:List UInt8) (v:Int) (xs:List Ex) (P:Nat->Prop) (a:World) (o:Option Addr) (n c b:Nat) (l:List UInt8) (V:dS a P (.slice o n c) xs) (ah: ∀k,P k->k<b) (F:ew a b) (d:Bu a b l) (S:List UInt8) (R:de (.mk 3 op nm tx v xs)=S) (am:l.length+S.length<=1000000000):
  Calls prog 241 #[.pointer (some ⟨b,0,none⟩),.agg #[.int i64 3,.string (Z op),.string (Z nm),.string (Z tx),.int i64 v,.slice o n c]] a λe w'=>e=.returned (.tuple #[])/\Bu w' b (l++S)/\FB b a w':=by
 have H:=G (show nm=S from by rw[<-R];rfl);have al:nm.length=S.length:=by rw[H.out]
 clear R;have w:=G (show PC b a.heap.size a P 206 #[.int i64 3,.string (Z op),.string (Z nm),.string (Z tx),.int i64 v,.slice o n c] (.slice o n c) xs l _ from⟨aq a 206 #[.int i64 3,.string (Z op),.string (Z nm),.string (Z tx),.int i64 v,.slice o n c],d.ext (aa a _),V.keep (.of_ext (aa a _)) (λ_ ag _=>ag),aW (aa a _) (aG d.lt),F.fb (aW (aa a _) (aG d.lt)),bW d.lt,by decide,ah⟩);have z:=w.out.box.cell;clear d V F;go_enter func241,ntmps241;go_wp2_with fail;refine aB 5 3 [] mixed Qb trivial ?_;repeat (refine sx ?_ (λaj A=> ?_) ?_;rotate_left;(focus have an:=(w.out.ex A.un).box.cell;clear A;go_simp<;>with_reducible rfl);simp only[bE,bD,bC,bB,bA])
 intro ai y af;clear af;simp only[ae,aw];have u:=G (w.out.ex y.un);clear y z w;have z:=u.out.box.cell;go_wp2_with ((go_at_call 118;refine(c_ b l nm _ u.out.bu J).mono ?_;rintro e u2 ⟨rfl,I,X⟩;have ad:=G (u.out.wr I X);clear I X u))
 go_end0
 exact⟨rfl,by rw[<-H.out];have:=ad.out.bu;exact this,ad.out.fb⟩
theorem Jy (op nm tx:List UInt8) (v:Int) (y:Ex) (az:pY y) (P:Nat->Prop) (a:World) (X:Option Addr) (n c b:Nat) (l:List UInt8) (af:dS a P (.slice X n c) [y]) (o: ∀k,P k->k<b) (aE:ew a b) (V:Bu a b l) (S:List UInt8) (aH:de (.mk 4 op nm tx v [y])=S) (ba:l.length+S.length<=1000000000):
  Calls prog 241 #[.pointer (some ⟨b,0,none⟩),.agg #[.int i64 4,.string (Z op),.string (Z nm),.string (Z tx),.int i64 v,.slice X n c]] a λe w'=>e=.returned (.tuple #[])/\Bu w' b (l++S)/\FB b a w':=by
 have aA:=af.len;have aI:=G az;unfold pY at aI;have aJ:=G (show nm++[91]++de y++[93]=S from by rw[<-aH];rfl);have a9:nm.length+1+(de y).length+1=S.length:=by rw[<-aJ.out];simp only[H,ag,ai]
 clear aH az;simp only[ag,ai]at aA;obtain rfl:n=1:=aA;obtain⟨b0,z,a0,aN,A,F,ar,ap,ao,an,am,al,ad⟩:=af.at_ 0 Qe;simp only[aF,aP,aY,bx,cE]at ar ap ao an am al ad;obtain⟨a1,aU,rfl,_⟩:=ad.form;have R:=G (aC ar (aC ap (aC ao (aC an (aC am al)))));have aX:=G ad;clear ar ap ao an am al ad;have aj:=G (show PC b a.heap.size a P 206 #[.int i64 4,.string (Z op),.string (Z nm),.string (Z tx),.int i64 v,.slice X 1 c] (.slice X 1 c) [y] l _ from⟨aq a 206 #[.int i64 4,.string (Z op),.string (Z nm),.string (Z tx),.int i64 v,.slice X 1 c],V.ext (aa a _),af.keep (.of_ext (aa a _)) (λ_ au _=>au),aW (aa a _) (aG V.lt),aE.fb (aW (aa a _) (aG V.lt)),bW V.lt,by decide,o⟩);have I:=aj.out.box.cell;clear V af aE;obtain⟨c1,av⟩: ∃c,Hid (nm++[91]=c):=⟨_,G rfl⟩
 have a4:c1.length=nm.length+1:=by rw[<-av.out,H];rfl
 have a5:Z nm++(⟨#[91]⟩:ByteArray)=Z c1:=by rw[<-av.out];exact eH _ _
 have a8: ¬9223372036854775807<nm.length+1:=J
 have bb: ¬9223372036854775807<1+nm.length:=J
 have a6:(Z nm).size=nm.length:=aZ _;have a7:((⟨#[91]⟩:ByteArray)).size=1:=rfl;subst aN;generalize de y=aV at*;go_enter func241,ntmps241;go_wp2_with fail;refine aB 6 3 [] mixed Qb trivial ?_;repeat (refine sx ?_ (λa3 aD=> ?_) ?_;rotate_left;(focus have bc:=(aj.out.ex aD.un).box.cell;clear aD;go_simp<;>with_reducible rfl);simp only[bE,bD,bC,bB,bA])
 intro a2 ay aM;clear aM;simp only[ae,aw];have ah:=G (aj.out.ex ay.un);clear ay I aj;have I:=ah.out.box.cell;go_wp2_with (first|(go_at_call 118;refine(c_ b l c1 _ ah.out.bu J).mono ?_;rintro e u2 ⟨rfl,w,u⟩;have d:=G (ah.out.wr w u);clear w u ah;clear I;have I:=d.out.box.cell;have e0:=(d.out.fb.keepP o).cell (z) F A|>.trans R.out.1;have aT:=(d.out.fb.keepP o).cell (z+1) F A|>.trans R.out.2.1;have aS:=(d.out.fb.keepP o).cell (z+2) F A|>.trans R.out.2.2.1;have aR:=(d.out.fb.keepP o).cell (z+3) F A|>.trans R.out.2.2.2.1;have aQ:=(d.out.fb.keepP o).cell (z+4) F A|>.trans R.out.2.2.2.2.1;have aO:=(d.out.fb.keepP o).cell (z+5) F A|>.trans R.out.2.2.2.2.2)|(go_at_call 241;refine(aI.out P _ a1 _ aU b (l++c1) (aX.out.keep (d.out.fb.keepP o) (λ_ au _=>au)) o d.out.tab d.out.bu (by simp only[H];omega)).mono ?_;rintro e u3 ⟨rfl,w,u⟩;have ax:=G (d.out.wr w u);clear w u d;clear e0 aT aS aR aQ aO)|(go_at_call 118;refine(c_ b (l++c1++aV) [93] _ ax.out.bu (by simp only[H,ag,ai];omega)).mono ?_;rintro e u4 ⟨rfl,w,u⟩;have aK:=G (ax.out.wr w u);clear w u ax))
 go_end0
 exact⟨rfl,by rw[<-aJ.out];have:=aK.out.bu;rw[<-av.out]at this;simpa[aL]using this,aK.out.fb⟩
theorem Jx (op nm tx:List UInt8) (v:Int) (xs:List Ex) (aE: ∀d,d∈xs->pY d) (bJ:xs.length<=4) (P:Nat->Prop) (u:World) (R:Option Addr) (n c b:Nat) (l:List UInt8) (av:dS u P (.slice R n c) xs) (ao: ∀k,P k->k<b) (aK:ew u b) (ad:Bu u b l) (S:List UInt8) (aM:de (.mk 5 op nm tx v xs)=S) (bt:l.length+S.length<=1000000000):
  Calls prog 241 #[.pointer (some ⟨b,0,none⟩),.agg #[.int i64 5,.string (Z op),.string (Z nm),.string (Z tx),.int i64 v,.slice R n c]] u λe w'=>e=.returned (.tuple #[])/\Bu w' b (l++S)/\FB b u w':=by
 have aH:=av.len;have bc:=G aE;have aP:=G (show nm++[40]++eY [44,32] (f7 xs)++[41]=S from by rw[<-aM];rfl);have br:nm.length+1+(eY [44,32] (f7 xs)).length+1=S.length:=by rw[<-aP.out];simp only[H,ag,ai]
 have aS:=G aH;have bp:(n:Int)<=4:=J
 clear aM aE aH;have ap:=G (show PC b u.heap.size u P 206 #[.int i64 5,.string (Z op),.string (Z nm),.string (Z tx),.int i64 v,.slice R n c] (.slice R n c) xs l _ from⟨aq u 206 #[.int i64 5,.string (Z op),.string (Z nm),.string (Z tx),.int i64 v,.slice R n c],ad.ext (aa u _),av.keep (.of_ext (aa u _)) (λ_ X _=>X),aW (aa u _) (aG ad.lt),aK.fb (aW (aa u _) (aG ad.lt)),bW ad.lt,by decide,ao⟩);have V:=ap.out.box.cell;clear ad av aK;obtain⟨c1,ay⟩: ∃c,Hid (nm++[40]=c):=⟨_,G rfl⟩
 have bj:c1.length=nm.length+1:=by rw[<-ay.out,H];rfl
 have bm:Z nm++(⟨#[40]⟩:ByteArray)=Z c1:=by rw[<-ay.out];exact eH _ _
 have bq: ¬9223372036854775807<nm.length+1:=J
 have bv: ¬9223372036854775807<1+nm.length:=J
 have bn:(Z nm).size=nm.length:=aZ _;have bo:((⟨#[40]⟩:ByteArray)).size=1:=rfl;go_enter func241,ntmps241;go_wp2_with fail;refine aB 6 3 [] mixed Qb trivial ?_;repeat (refine sx ?_ (λbg aJ=> ?_) ?_;rotate_left;(focus have bK:=(ap.out.ex aJ.un).box.cell;clear aJ;go_simp<;>with_reducible rfl);simp only[bE,bD,bC,bB,bA])
 intro bf aC a1;clear a1;simp only[ae,aw];have y:=G (ap.out.ex aC.un);clear aC V ap;have V:=y.out.box.cell;go_wp2_with ((go_at_call 118;refine(c_ b l c1 _ y.out.bu J).mono ?_;rintro e u2 ⟨rfl,w,o⟩;have A:=G (y.out.wr w o);clear w o y;clear V;have V:=A.out.box.cell));clear V
 go_loopw [66] (λar wr=> ∃j:Nat,ar=.int i64 (j:Int)/\j<=n/\Hid (PC b u.heap.size u P 206 #[.int i64 5,.string (Z op),.string (Z nm),.string (Z tx),.int i64 v,.slice R n c] (.slice R n c) xs (l++c1++eY [44,32] ((f7 xs).take j)) wr)) (λar _=>n-(intOf ar).toNat)
 case atStart=>exact⟨0,rfl,aD _,by simpa[eY]using A⟩
 case round=>
  clear A;obtain⟨j,rfl,bF,F⟩:=hrel;by_cases hlt:j<n
  ·have a2:(j:Int)<n:=J
   have aI:j<xs.length:=by have:=aS.out;omega
   obtain⟨bL,bi,bM,rfl,bG,bI,e0,a9,a8,a7,a6,a5,an⟩:=F.out.rd.at_ j aI;have az:=G (bc.out _ (ax aI));have au:(f7 xs).length=xs.length:=by rw[nW];simp
   have aF:(f7 xs)[j]' J=de xs[j]:=by simp[nW]
   have aj:=G (show eY [44,32] ((f7 xs).take (j+1))=eY [44,32] ((f7 xs).take j)++((if(f7 xs).take j=[]then[]else[44,32])++de xs[j])from by rw[aT J,xu,aF]);have bH:(eY [44,32] ((f7 xs).take (j+1))).length<=(eY [44,32] (f7 xs)).length:=by
    have:f7 xs=(f7 xs).take (j+1)++(f7 xs).drop (j+1):=(df _ _).symm
    conv=>rhs;rw[this]
    cases z:(f7 xs).take (j+1)with
    |nil=>simp[eY]
    |cons a r=>simp[eY]
   have am:((f7 xs).take j=[])↔j=0:=by
    rw[List.take_eq_nil_iff];constructor
    ·rintro(z|z)
     ·exact z
     ·rw[z]at au;simp at au;omega
    ·exact λz=> .inl z
   generalize xs[j]=d at*;unfold pY at az;obtain⟨al,af,rfl,_⟩:=an.form;have bd:=G an;have a4:d.args.length=d.args.length:=rfl;have bl:=F.out.bu.lt;have y:=G (F.out.ex (aa _ (.cells #[.int i64 d.k,.string (Z d.op),.string (Z d.nm),.string (Z d.tx),.int i64 d.v,.slice al d.args.length af] 206)));have aO:=G (aq wr 206 #[.int i64 d.k,.string (Z d.op),.string (Z d.nm),.string (Z d.tx),.int i64 d.v,.slice al d.args.length af]);have aX:wr.heap.size≠b:=J
   have aQ:=G (an.keep (.of_ext (aa wr (.cells #[.int i64 d.k,.string (Z d.op),.string (Z d.nm),.string (Z d.tx),.int i64 d.v,.slice al d.args.length af] 206))) (λ_ X _=>X));generalize eY [44,32] ((f7 xs).take j)=ah at*;generalize aN:eY [44,32] ((f7 xs).take (j+1))=ba at*;have I:=congrArg List.length aj.out;simp only[H]at I;generalize de d=bN at*;clear an au aF bd a4;by_cases hj0:j=0
   ·subst hj0;simp only[aY,bx]at e0 a9 a8 a7 a6 a5;rw[if_pos (am.2 rfl)]at aj I;simp only[ai]at I;clear am;go_wp2_with (go_at_call 241;refine(az.out P _ al _ af b (l++c1++ah) aQ.out ao y.out.tab y.out.bu (by simp only[H];omega)).mono ?_;rintro e u3 ⟨rfl,w,o⟩;have aA:=G (y.out.wr w o);clear w o y);go_roundw
    case rel=>exact⟨1,rfl,by omega,by have:=aj.out;rw[show eY [44,32] (List.take 1 (f7 xs))=ba from aN,this];simpa[aL]using aA⟩
    case measure=>simp[intOf];omega
   ·have bz:(0:Int)<j:=J
    have bw:0<j:=J
    rw[if_neg (λz=>hj0 (am.1 z))]at aj I;simp only[ag,ai]at I;clear am;have aV:=aO.out.cell;go_wp2_with (first|(go_at_call 118;refine(c_ b (l++c1++ah) [44,32] _ y.out.bu (by simp only[H,ag,ai];omega)).mono ?_;rintro e u2 ⟨rfl,w,o⟩;have A:=G (y.out.wr w o);have bb:=G (o.keep _ _ _ aX Qd aO.out);have bk:=bb.out.cell;have be:=G (aQ.out.keep (o.keepP ao) (λ_ X _=>X));clear w o y;clear aV)|(go_at_call 241;refine(az.out P _ al _ af b (l++c1++ah++[44,32]) be.out ao A.out.tab A.out.bu (by simp only[H,ag,ai];omega)).mono ?_;rintro e u3 ⟨rfl,w,o⟩;have aA:=G (A.out.wr w o);clear w o A));go_roundw
    case rel=>exact⟨j+1,by go_num,by omega,by have:=aj.out;rw[aN,this];simpa[aL]using aA⟩
    case measure=>simp[intOf];omega
  ·have a2: ¬(j:Int)<n:=J
   have a3:j=n:=J
   have aR:=G (show(f7 xs).take j=f7 xs from by rw[a3,aS.out,bQ (by rw[nW];simp)]);rw[aR.out]at F;generalize eY [44,32] (f7 xs)=ah at*;clear aR;go_wp2_with ((go_at_call 118;refine(c_ b (l++c1++ah) [41] _ F.out.bu (by simp only[H,ag,ai];omega)).mono ?_;rintro e bh ⟨rfl,w,o⟩;have aU:=G (F.out.wr w o);clear w o F))
   go_end0
   exact⟨rfl,by rw[<-aP.out];have:=aU.out.bu;rw[<-ay.out]at this;simpa[aL]using this,aU.out.fb⟩
theorem Jw (op nm tx:List UInt8) (v:Int) (d:Ex) (aK:pY d) (P:Nat->Prop) (u:World) (aZ:Option Addr) (n c b:Nat) (l:List UInt8) (aj:dS u P (.slice aZ n c) [d]) (V: ∀k,P k->k<b) (ad:ew u b) (af:Bu u b l) (S:List UInt8) (aO:de (.mk 6 op nm tx v [d])=S) (bm:l.length+S.length<=1000000000):
  Calls prog 241 #[.pointer (some ⟨b,0,none⟩),.agg #[.int i64 6,.string (Z op),.string (Z nm),.string (Z tx),.int i64 v,.slice aZ n c]] u λe w'=>e=.returned (.tuple #[])/\Bu w' b (l++S)/\FB b u w':=by
 have aN:=aj.len;have aT:=G (show op++pL (decide (d.prec<7)) (de d)=S from by rw[<-aO];rfl);have bj:=qf (decide (d.prec<7)) (de d);have bl:op.length+(pL (decide (d.prec<7)) (de d)).length=S.length:=by rw[<-aT.out];simp only[H]
 have bk:(de d).length<=(pL (decide (d.prec<7)) (de d)).length:=by unfold pL;split<;>simp<;>omega
 clear aO;simp only[ag,ai]at aN;obtain rfl:n=1:=aN;obtain⟨b0,o,a0,a5,y,z,ay,ax,av,au,ar,ap,ah⟩:=aj.at_ 0 Qe;simp only[aF,aP,aY,bx,cE]at ay ax av au ar ap ah;obtain⟨aX,aS,rfl,_⟩:=ah.form;have A:=G (aC ay (aC ax (aC av (aC au (aC ar ap)))));have bd:=G ah;clear ay ax av au ar ap ah;subst a5;have ao:=G (show PC b u.heap.size u P 206 #[.int i64 6,.string (Z op),.string (Z nm),.string (Z tx),.int i64 v,.slice (some ⟨b0,o,none⟩) 1 c] (.slice (some ⟨b0,o,none⟩) 1 c) [d] l _ from⟨aq u 206 #[.int i64 6,.string (Z op),.string (Z nm),.string (Z tx),.int i64 v,.slice (some ⟨b0,o,none⟩) 1 c],af.ext (aa u _),aj.keep (.of_ext (aa u _)) (λ_ aE _=>aE),aW (aa u _) (aG af.lt),ad.fb (aW (aa u _) (aG af.lt)),bW af.lt,by decide,V⟩);have I:=ao.out.box.cell;clear af aj ad;have bf:=G (λu=>oh d u (.slice aX d.args.length aS) ⟨_,_,_,rfl⟩);have bg:=G (tu d aK);generalize d.prec=aA at*;generalize de d=bc at*;clear aK;go_enter func241,ntmps241;go_wp2_with fail;refine aB 5 3 [] mixed Qb trivial ?_;repeat (refine sx ?_ (λaI F=> ?_) ?_;rotate_left;(focus have aR:=(ao.out.ex F.un).box.cell;clear F;go_simp<;>with_reducible rfl);simp only[bE,bD,bC,bB,bA])
 intro bh aJ R;clear R;simp only[ae,aw];have an:=G (ao.out.ex aJ.un);clear aJ I ao;have I:=an.out.box.cell;go_wp2_with ((go_at_call 118;refine(c_ b l op _ an.out.bu J).mono ?_;rintro e u2 ⟨rfl,am,al⟩;have w:=G (an.out.wr am al);clear am al an;clear I;have I:=w.out.box.cell));have aD:=aG w.out.bu.lt;clear I;refine ju b 12 8 [(9,λx=>x=.int i64 aA,λ_ _=>True),(11,λx=>x=.tuple #[],λ_ a1=>Bu a1 b (l++op++pL (decide (aA<7)) bc))] 11 mixed Qb aD ⟨λ_ _ _ _ _=>trivial,λ_ _ _ a6 a3=>a6.ext a3,trivial⟩ ⟨.inr λ_ _ _ _ _=>trivial,.inl rfl,trivial⟩ ?_;repeat (refine sx ?_ (λaI F=> ?_) ?_;rotate_left;(focus have X:=oD (F aD);have aR:=(X.keep _ _ _ w.out.ne w.out.tt w.out.box).cell;have a:=fJ (w.out.fb.keepP V) (X.keepP V);have e0:=(a.cell (o) z y).trans A.out.1;have bb:=(a.cell (o+1) z y).trans A.out.2.1;have ba:=(a.cell (o+2) z y).trans A.out.2.2.1;have a9:=(a.cell (o+3) z y).trans A.out.2.2.2.1;have a8:=(a.cell (o+4) z y).trans A.out.2.2.2.2.1;have a7:=(a.cell (o+5) z y).trans A.out.2.2.2.2.2;clear X a F;go_simp<;>with_reducible rfl);simp only[bE,bD,bC,bB,bA])
 refine so (λaz F R K a=> ?_) ?_
 ·clear R F;go_simp;refine(bf.out az).mono ?_;rintro e a2 ⟨rfl,a4⟩;exact a _ _ a4 rfl trivial
 rintro _ rfl;simp only[bE,bD,bC,bB,bA];repeat (refine sx ?_ (λaI F=> ?_) ?_;rotate_left;(focus have X:=oD (F aD);have aR:=(X.keep _ _ _ w.out.ne w.out.tt w.out.box).cell;have a:=fJ (w.out.fb.keepP V) (X.keepP V);have e0:=(a.cell (o) z y).trans A.out.1;have bb:=(a.cell (o+1) z y).trans A.out.2.1;have ba:=(a.cell (o+2) z y).trans A.out.2.2.1;have a9:=(a.cell (o+3) z y).trans A.out.2.2.2.1;have a8:=(a.cell (o+4) z y).trans A.out.2.2.2.2.1;have a7:=(a.cell (o+5) z y).trans A.out.2.2.2.2.2;clear X a F;go_simp<;>with_reducible rfl);simp only[bE,bD,bC,bB,bA])
 refine dL _ _ Qf rfl ⟨_,rfl⟩ rfl (λaz ad R K a=> ?_) ?_
 ·have aU:=G (w.out.ex ad.un);have aQ:=bd.out.keep (fJ (w.out.fb.keepP V) (.of_ext ad.un)) (λ_ aE _=>aE);have be:=G aQ;clear R ad aQ;go_simp;refine(bg.out (decide (aA<7)) P az aX _ aS b (l++op) be.out V aU.out.tab aU.out.bu (by first|omega|(simp only[H,ag,ai];omega))).mono ?_;rintro e a2 ⟨rfl,am,al⟩;exact a _ _ (λ_=>al) rfl am
 rintro _ rfl;simp only[bE,bD,bC,bB,bA];intro bi aM R;have aH:=G (w.out.wr (R _ (.head _)) aM);clear aM R;simp only[ae,aV];have I:=aH.out.box.cell;go_wp2_with fail
 go_end0
 exact⟨rfl,by rw[<-aT.out];have:=aH.out.bu;simpa[aL]using this,aH.out.fb⟩
theorem Jv (op nm tx:List UInt8) (v:Int) (u o:Ex) (bw:pY u) (bv:pY o) (P:Nat->Prop) (w:World) (bQ:Option Addr) (n c b:Nat) (l:List UInt8) (ay:dS w P (.slice bQ n c) [u,o]) (F: ∀k,P k->k<b) (am:ew w b) (az:Bu w b l) (S:List UInt8) (bG:de (.mk 7 op nm tx v [u,o])=S) (b7:l.length+S.length<=1000000000):
  Calls prog 241 #[.pointer (some ⟨b,0,none⟩),.agg #[.int i64 7,.string (Z op),.string (Z nm),.string (Z tx),.int i64 v,.slice bQ n c]] w λe w'=>e=.returned (.tuple #[])/\Bu w' b (l++S)/\FB b w w':=by
 have bF:=ay.len;have bN:=G (show pL (decide (u.prec<mX op)) (de u)++([32]++op++[32])++pL (decide (o.prec<=mX op)) (de o)=S from by rw[<-bG];rfl);have b6:(pL (decide (u.prec<mX op)) (de u)).length+(1+op.length+1)+(pL (decide (o.prec<=mX op)) (de o)).length=S.length:=by rw[<-bN.out];simp only[H,ag,ai]
 have bZ:(de u).length<=(pL (decide (u.prec<mX op)) (de u)).length:=by unfold pL;split<;>simp<;>omega
 have bY:(de o).length<=(pL (decide (o.prec<=mX op)) (de o)).length:=by unfold pL;split<;>simp<;>omega
 clear bG;simp only[ag,ai]at bF;obtain rfl:n=2:=bF;obtain⟨b0,d,a0,cb,I,af,a7,a5,a3,a1,aU,aS,aK⟩:=ay.at_ 0 Qe;simp only[aF,aP,aY,bx,cE]at a7 a5 a3 a1 aU aS aK;obtain⟨bP,bI,rfl,_⟩:=aK.form;subst cb;obtain⟨b1,cm,bj,aA,X,ad,a6,a4,a2,aX,aT,aR,aJ⟩:=ay.at_ 1 Qe;simp only[aF,aP,aY,bx,cE]at a6 a4 a2 aX aT aR aJ;obtain⟨bO,bH,rfl,_⟩:=aJ.form;injection aA with aA;injection aA with aA ca;subst aA ca;have aj:=G (aC a7 (aC a5 (aC a3 (aC a1 (aC aU aS)))));have ce:=G aK;clear a7 a5 a3 a1 aU aS aK;have ah:=G (aC a6 (aC a4 (aC a2 (aC aX (aC aT aR)))));have cd:=G aJ;clear a6 a4 a2 aX aT aR aJ;have bp:=G (show PC b w.heap.size w P 206 #[.int i64 7,.string (Z op),.string (Z nm),.string (Z tx),.int i64 v,.slice (some ⟨b0,d,none⟩) 2 c] (.slice (some ⟨b0,d,none⟩) 2 c) [u,o] l _ from⟨aq w 206 #[.int i64 7,.string (Z op),.string (Z nm),.string (Z tx),.int i64 v,.slice (some ⟨b0,d,none⟩) 2 c],az.ext (aa w _),ay.keep (.of_ext (aa w _)) (λ_ av _=>av),aW (aa w _) (aG az.lt),am.fb (aW (aa w _) (aG az.lt)),bW az.lt,by decide,F⟩);have al:=bp.out.box.cell;clear az ay am;have cg:=G (λw=>oh u w (.slice bP u.args.length bI) ⟨_,_,_,rfl⟩);have ci:=G (tu u bw);have cf:=G (λw=>oh o w (.slice bO o.args.length bH) ⟨_,_,_,rfl⟩);have ch:=G (tu o bv);generalize u.prec=aI at*;generalize o.prec=aH at*;obtain⟨c1,bl⟩: ∃c,Hid ([32]++op=c):=⟨_,G rfl⟩
 have br:c1.length=1+op.length:=by rw[<-bl.out,H];rfl
 have bS:(⟨#[32]⟩:ByteArray)++Z op=Z c1:=by rw[<-bl.out];exact eH _ _
 have b5: ¬9223372036854775807<1+op.length:=J
 have b9: ¬9223372036854775807<op.length+1:=J
 have bX:((⟨#[32]⟩:ByteArray)).size=1:=rfl;have bV:(Z op).size=op.length:=aZ _;obtain⟨c2,bk⟩: ∃c,Hid (c1++[32]=c):=⟨_,G rfl⟩
 have bq:c2.length=c1.length+1:=by rw[<-bk.out,H];rfl
 have bR:Z c1++(⟨#[32]⟩:ByteArray)=Z c2:=by rw[<-bk.out];exact eH _ _
 have b4: ¬9223372036854775807<c1.length+1:=J
 have b8: ¬9223372036854775807<1+c1.length:=J
 have bU:(Z c1).size=c1.length:=aZ _;have bT:((⟨#[32]⟩:ByteArray)).size=1:=rfl;have bM:=G br;have bL:=G bq;clear br bq;have bn:=G (λw=>oh (.mk 7 op nm tx v [u,o]) w (.slice (some ⟨b0,d,none⟩) 2 c) ⟨_,_,_,rfl⟩);have bz:Ex.prec (.mk 7 op nm tx v [u,o])=mX op:=rfl;rw[bz]at bn;simp only[Ex.k,Ex.op,Ex.nm,Ex.tx,Ex.v]at bn;generalize mX op=L at*;generalize de u=bK at*;generalize de o=bJ at*;clear bw bv bz;go_enter func241,ntmps241;go_wp2_with (go_at_call 257;refine(bn.out _).mono ?_;rintro e u1 ⟨rfl,ao⟩;have V:=G (bp.out.ex ao);clear ao al bp;have al:=V.out.box.cell);have bc:=aG V.out.bu.lt;clear al;refine ju b 13 8 [(9,λx=>x=.int i64 aI,λ_ _=>True),(12,λx=>x=.tuple #[],λ_ a8=>Bu a8 b (l++pL (decide (aI<L)) bK))] 12 mixed Qb bc ⟨λ_ _ _ _ _=>trivial,λ_ _ _ bd ba=>bd.ext ba,trivial⟩ ⟨.inr λ_ _ _ _ _=>trivial,.inl rfl,trivial⟩ ?_;repeat (refine sx ?_ (λaE y=> ?_) ?_;rotate_left;(focus have A:=oD (y bc);have aM:=(A.keep _ _ _ V.out.ne V.out.tt V.out.box).cell;have a:=fJ (V.out.fb.keepP F) (A.keepP F);have e0:=(a.cell (d) af I).trans aj.out.1;have bi:=(a.cell (d+1) af I).trans aj.out.2.1;have bh:=(a.cell (d+2) af I).trans aj.out.2.2.1;have bg:=(a.cell (d+3) af I).trans aj.out.2.2.2.1;have bf:=(a.cell (d+4) af I).trans aj.out.2.2.2.2.1;have be:=(a.cell (d+5) af I).trans aj.out.2.2.2.2.2;clear A a y;go_simp<;>with_reducible rfl);simp only[bE,bD,bC,bB,bA])
 refine so (λan y z K a=> ?_) ?_
 ·clear z y;go_simp;refine(cg.out an).mono ?_;rintro e a9 ⟨rfl,ao⟩;exact a _ _ ao rfl trivial
 rintro _ rfl;simp only[bE,bD,bC,bB,bA];repeat (refine sx ?_ (λaE y=> ?_) ?_;rotate_left;(focus have A:=oD (y bc);have aM:=(A.keep _ _ _ V.out.ne V.out.tt V.out.box).cell;have a:=fJ (V.out.fb.keepP F) (A.keepP F);have e0:=(a.cell (d) af I).trans aj.out.1;have bi:=(a.cell (d+1) af I).trans aj.out.2.1;have bh:=(a.cell (d+2) af I).trans aj.out.2.2.1;have bg:=(a.cell (d+3) af I).trans aj.out.2.2.2.1;have bf:=(a.cell (d+4) af I).trans aj.out.2.2.2.2.1;have be:=(a.cell (d+5) af I).trans aj.out.2.2.2.2.2;clear A a y;go_simp<;>with_reducible rfl);simp only[bE,bD,bC,bB,bA])
 refine dL _ _ Qf rfl ⟨_,rfl⟩ rfl (λan am z K a=> ?_) ?_
 ·have aD:=G (V.out.ex am.un);have ax:=ce.out.keep (fJ (V.out.fb.keepP F) (.of_ext am.un)) (λ_ av _=>av);have bm:=G ax;clear z am ax;go_simp;refine(ci.out (decide (aI<L)) P an bP _ bI b (l) bm.out F aD.out.tab aD.out.bu (by first|omega|(simp only[H,ag,ai];omega))).mono ?_;rintro e a9 ⟨rfl,ar,ap⟩;exact a _ _ (λ_=>ap) rfl ar
 rintro _ rfl;simp only[bE,bD,bC,bB,bA];intro cl au z;have aQ:=G (V.out.wr (z _ (.head _)) au);clear au z;simp only[ae,aV];have al:=aQ.out.box.cell;go_wp2_with fail;generalize cn:pL (decide (aI<L)) bK=aN at*;refine aB 7 3 [] mixed Qb trivial ?_;repeat (refine sx ?_ (λaE y=> ?_) ?_;rotate_left;(focus have aM:=(aQ.out.ex y.un).box.cell;clear y;go_simp<;>with_reducible rfl);simp only[bE,bD,bC,bB,bA])
 intro cj bt z;clear z;simp only[ae,aw];have aO:=G (aQ.out.ex bt.un);clear bt al aQ;have al:=aO.out.box.cell;go_wp2_with ((go_at_call 118;refine(c_ b (l++aN) c2 _ aO.out.bu (by have bj:=bM.out;have cc:=bL.out;simp only[H];omega)).mono ?_;rintro e u4 ⟨rfl,ar,ap⟩;have R:=G (aO.out.wr ar ap);clear ar ap aO;clear al;have al:=R.out.box.cell));have bj:l.length+aN.length+c2.length+(pL (decide (aH<=L)) bJ).length<=1000000000:=by have bj:=bM.out;have cc:=bL.out;omega
 clear bS bR b5 b4 b9 b8 bX bV bU bT b6 b7 bZ bY;have bb:=aG R.out.bu.lt;clear al;refine ju b 13 8 [(9,λx=>x=.int i64 aH,λ_ _=>True),(12,λx=>x=.tuple #[],λ_ a8=>Bu a8 b (l++aN++c2++pL (decide (aH<=L)) bJ))] 12 mixed Qb bb ⟨λ_ _ _ _ _=>trivial,λ_ _ _ bd ba=>bd.ext ba,trivial⟩ ⟨.inr λ_ _ _ _ _=>trivial,.inl rfl,trivial⟩ ?_;repeat (refine sx ?_ (λaE y=> ?_) ?_;rotate_left;(focus have A:=oD (y bb);have aM:=(A.keep _ _ _ R.out.ne R.out.tt R.out.box).cell;have a:=fJ (R.out.fb.keepP F) (A.keepP F);have e0:=(a.cell (d+6) ad X).trans ah.out.1;have bi:=(a.cell (d+6+1) ad X).trans ah.out.2.1;have bh:=(a.cell (d+6+2) ad X).trans ah.out.2.2.1;have bg:=(a.cell (d+6+3) ad X).trans ah.out.2.2.2.1;have bf:=(a.cell (d+6+4) ad X).trans ah.out.2.2.2.2.1;have be:=(a.cell (d+6+5) ad X).trans ah.out.2.2.2.2.2;clear A a y;go_simp<;>with_reducible rfl);simp only[bE,bD,bC,bB,bA])
 refine so (λan y z K a=> ?_) ?_
 ·clear z y;go_simp;refine(cf.out an).mono ?_;rintro e a9 ⟨rfl,ao⟩;exact a _ _ ao rfl trivial
 rintro _ rfl;simp only[bE,bD,bC,bB,bA];repeat (refine sx ?_ (λaE y=> ?_) ?_;rotate_left;(focus have A:=oD (y bb);have aM:=(A.keep _ _ _ R.out.ne R.out.tt R.out.box).cell;have a:=fJ (R.out.fb.keepP F) (A.keepP F);have e0:=(a.cell (d+6) ad X).trans ah.out.1;have bi:=(a.cell (d+6+1) ad X).trans ah.out.2.1;have bh:=(a.cell (d+6+2) ad X).trans ah.out.2.2.1;have bg:=(a.cell (d+6+3) ad X).trans ah.out.2.2.2.1;have bf:=(a.cell (d+6+4) ad X).trans ah.out.2.2.2.2.1;have be:=(a.cell (d+6+5) ad X).trans ah.out.2.2.2.2.2;clear A a y;go_simp<;>with_reducible rfl);simp only[bE,bD,bC,bB,bA])
 refine dL _ _ Qf rfl ⟨_,rfl⟩ rfl (λan am z K a=> ?_) ?_
 ·have aD:=G (R.out.ex am.un);have ax:=cd.out.keep (fJ (R.out.fb.keepP F) (.of_ext am.un)) (λ_ av _=>av);have bm:=G ax;clear z am ax;go_simp;refine(ch.out (decide (aH<=L)) P an bO _ bH b (l++aN++c2) bm.out F aD.out.tab aD.out.bu (by first|omega|(simp only[H,ag,ai];omega))).mono ?_;rintro e a9 ⟨rfl,ar,ap⟩;exact a _ _ (λ_=>ap) rfl ar
 rintro _ rfl;simp only[bE,bD,bC,bB,bA];intro ck au z;have bo:=G (R.out.wr (z _ (.head _)) au);clear au z;simp only[ae,aV];have al:=bo.out.box.cell;go_wp2_with fail
 go_end0
 exact⟨rfl,by rw[<-bN.out];have:=bo.out.bu;rw[<-bk.out,<-bl.out]at this;simpa[aL]using this,bo.out.fb⟩
end
section
open Go.RowKit
theorem yd: ∀(m:Nat) (x:Ex),x.wt<=m->x.ok=true->pY x
 |0,x,hm,_=>absurd hm (by have:=x.wt_eq;omega)
 |m+1,.mk k op nm tx v a,hm,h=>by
  have H:=(Ex.mk k op nm tx v a).wt_eq;simp only[Ex.op,Ex.nm,Ex.tx,Ex.args]at H;rw[Ex.ok,am]at h;obtain⟨d,I⟩:=h;rw[tC]at I;have X: ∀o,o∈a->pY o:=λo aa=>yd m o (by have:=eE aa;omega) (List.all_eq_true.1 I o aa);intro P w R n c b l A F z G y;simp only[Ex.k,Ex.op,Ex.nm,Ex.tx,Ex.v,Ex.args]at*;by_cases k1:k=1
  ·subst k1;rw[if_pos rfl]at d;simp only[am,decide_eq_true_eq]at d;exact JB op nm tx v a d.1.1.1 d.1.1.2 P w R n c b l A F z G _ rfl y
  rw[if_neg k1]at d;by_cases k2:k=2
  ·subst k2;rw[if_pos rfl]at d;simp only[am,tz,decide_eq_true_eq]at d;exact JA op nm tx v a d.1.1.2 P w R n c b l A F z G _ rfl y
  rw[if_neg k2]at d;by_cases k3:k=3
  ·subst k3;exact Jz op nm tx v a P w R n c b l A F z G _ rfl y
  rw[if_neg k3]at d;by_cases k4:k=4
  ·subst k4;rw[if_pos rfl]at d;simp only[am,beq_iff_eq]at d;obtain⟨o,rfl⟩:=List.length_eq_one_iff.1 d.2;exact Jy op nm tx v o (X o Qe) P w R n c b l A F z G _ rfl y
  rw[if_neg k4]at d;by_cases k5:k=5
  ·subst k5;rw[if_pos rfl]at d;simp only[am,decide_eq_true_eq]at d;exact Jx op nm tx v a X d.1.2 P w R n c b l A F z G _ rfl y
  rw[if_neg k5]at d;by_cases k6:k=6
  ·subst k6;rw[if_pos rfl]at d;simp only[am,beq_iff_eq]at d;obtain⟨o,rfl⟩:=List.length_eq_one_iff.1 d.2;exact Jw op nm tx v o (X o Qe) P w R n c b l A F z G _ rfl y
  rw[if_neg k6]at d;by_cases k7:k=7
  ·subst k7;rw[if_pos rfl]at d;simp only[am,beq_iff_eq]at d;obtain⟨o,V,rfl⟩: ∃o V,a=[o,V]:=by
    cases a with
    |nil=>simp at d
    |cons o r=>
     cases r with
     |nil=>simp at d
     |cons V r=>
      cases r with
      |nil=>exact⟨o,V,rfl⟩
      |cons u r=>simp at d
   exact Jv op nm tx v o V (X o Qe) (X V Qe) P w R n c b l A F z G _ rfl y
  ·rw[if_neg k7]at d
   cases d
theorem Eb {x:Ex} (a:x.ok=true):pY x:=yd _ x (ah _) a
def lG (i:Nat):List UInt8:=List.replicate i 9
def gC (i:Nat) (ts:List (List UInt8)):List UInt8:=[123,10]++ts.flatMap (λt=>lG (i+1)++t++[10])++(lG i++[125])
def AU:List UInt8:=[118,97,114,32]
def IV:List UInt8:=[32,61,32]
def Hi:List UInt8:=[105,102,32]
def qs:List UInt8:=[32,101,108,115,101,32]
def AT:List UInt8:=[119,104,105,108,101,32]
def p':List UInt8:=[114,101,116,117,114,110]
def l5 (i:Nat) (k:Int) (nm:List UInt8) (es bs ls l0:List (List UInt8)) (pV:Bool):List UInt8:=
 if k=1 then(if es=[]then AU++nm++[59]else AU++nm++IV++es.headD []++[59])
 else if k=2 then nm++IV++es.headD []++[59]
 else if k=3 then nm++[91]++es.headD []++[93]++(IV++es.tail.headD []++[59])
 else if k=4 then Hi++es.headD []++[32]++gC i bs++(if pV then qs++l0.headD []else if ls=[]then[]else qs++gC i ls)
 else if k=5 then AT++es.headD []++[32]++gC i bs
 else if k=6 then(if es=[]then p'++[59]else p'++[32]++es.headD []++[59])
 else if k=7 then es.headD []++[59]
 else[]
def py (l:List St):Bool:=l.length==1&&l.head?.map St.k==some 4
mutual
def eQ:St->Nat->List UInt8| .mk k nm e b l,i=>l5 i k nm (f7 e) (cu b (i+1)) (cu l (i+1)) (cu l i) (py l)
def cu:List St->Nat->List (List UInt8)
 | [],_=>[]
 |x::r,i=>eQ x i::cu r i
end
theorem my: ∀(l:List St) (i:Nat),cu l i=l.map λx=>eQ x i
 | [],_=>rfl
 |x::r,i=>by rw[cu,my r i];rfl
def nh (v:Vr):List UInt8:=AU++v.nm++(if 0<v.sz then[91]++mf v.sz.toNat++[93]else[])++[59,10]
def AV:List UInt8:=[102,117,110,99,32]
def nk (f:Fc):List UInt8:=AV++f.nm++[40]++eY [44,32] f.ps++[41,32]++gC 0 (cu f.body 1)++[10]
def nj (p:Pg):List UInt8:=p.vs.flatMap nh++p.fs.flatMap nk
end
section
open Go.RowKit
structure PS (b px:Nat) (w0:World) (P:Nat->Prop) (cs:Array Value) (e v z:Value) (x:St) (l:List UInt8) (W:World):Prop where
 box:aO W px 147 cs
 bu:Bu W b l
 re:dS W P e x.ex
 rb:eq W P v x.body
 rl:eq W P z x.els
 fb:FB b w0 W
 tab:ew W b
 ne:px≠b
 tt:147≠5
 hP: ∀k,P k->k<b
section
variable {b px:Nat} {w0 W W':World} {P:Nat->Prop} {cs:Array Value} {e v z:Value} {x:St} {l l':List UInt8}
theorem PS.wr (a:PS b px w0 P cs e v z x l W) (o:Bu W' b l') (d:FB b W W'):PS b px w0 P cs e v z x l' W':=
 ⟨d.keep _ _ _ a.ne a.tt a.box,o,a.re.keep (d.keepP a.hP) (λ_ h _=>h),a.rb.keep (d.keepP a.hP) (λ_ h _=>h),a.rl.keep (d.keepP a.hP) (λ_ h _=>h),a.fb.trans d,a.tab.fb d,a.ne,a.tt,a.hP⟩
theorem PS.ex (a:PS b px w0 P cs e v z x l W) (d:au W W'):PS b px w0 P cs e v z x l W':=a.wr (a.bu.ext d) (aW d (aG a.bu.lt))
end
theorem fG (x:Ex) (V:pY x) (u A:List UInt8) (P:Nat->Prop) (a:World) (y:Option Addr) (n c b:Nat) (l:List UInt8) (ad:dS a P (.slice y n c) x.args) (ae: ∀k,P k->k<b) (I:ew a b) (z:Bu a b l) (ai:l.length+u.length+(de x).length+A.length<=1000000000):
  Calls prog 216 #[.pointer (some ⟨b,0,none⟩),.string (Z u),.agg #[.int i64 x.k,.string (Z x.op),.string (Z x.nm),.string (Z x.tx),.int i64 x.v,.slice y n c],.string (Z A)] a λe w'=>e=.returned (.tuple #[])/\Bu w' b (l++(u++de x++A))/\FB b a w':=by
 have af:=G V;clear V;unfold pY at af;generalize de x=S at*;generalize aj:x.args=xs at*;generalize x.k=k at*;generalize x.op=op at*;generalize x.nm=nm at*;generalize x.tx=tx at*;generalize x.v=v at*;have F:=G (show PC b a.heap.size a P 206 #[.int i64 k,.string (Z op),.string (Z nm),.string (Z tx),.int i64 v,.slice y n c] (.slice y n c) xs l _ from⟨aq a 206 #[.int i64 k,.string (Z op),.string (Z nm),.string (Z tx),.int i64 v,.slice y n c],z.ext (aa a _),ad.keep (.of_ext (aa a _)) (λ_ ah _=>ah),aW (aa a _) (aG z.lt),I.fb (aW (aa a _) (aG z.lt)),bW z.lt,by decide,ae⟩);have X:=F.out.box.cell;clear z ad I;go_enter func216,ntmps216;go_wp2_with (first|(go_at_call 118;refine(c_ b l u _ F.out.bu J).mono ?_;rintro e u1 ⟨rfl,o,d⟩;have w:=G (F.out.wr o d);clear o d F;clear X;have X:=w.out.box.cell)|(go_at_call 241;refine(af.out P _ y n c b (l++u) w.out.rd ae w.out.tab w.out.bu (by simp only[H];omega)).mono ?_;rintro e u2 ⟨rfl,o,d⟩;have R:=G (w.out.wr o d);clear o d w)|(go_at_call 118;refine(c_ b (l++u++S) A _ R.out.bu (by simp only[H];omega)).mono ?_;rintro e u3 ⟨rfl,o,d⟩;have ag:=G (R.out.wr o d);clear o d R))
 go_end0
 exact⟨rfl,by have:=ag.out.bu;simpa[aL]using this,ag.out.fb⟩
def Hn (x:St):Prop:= ∀(P:Nat->Prop) (w:World) (A B C:Option Addr) (n c nb cb nl cl b i:Nat) (l:List UInt8),dS w P (.slice A n c) x.ex->eq w P (.slice B nb cb) x.body->eq w P (.slice C nl cl) x.els->(∀k,P k->k<b)->ew w b->Bu w b l->l.length+(eQ x i).length<=1000000000->Calls prog 174 #[.pointer (some ⟨b,0,none⟩),.agg #[.int i64 x.k,.string (Z x.nm),.slice A n c,.slice B nb cb,.slice C nl cl],.int i64 (i:Int)] w λe w'=>e=.returned (.tuple #[])/\Bu w' b (l++eQ x i)/\FB b w w'
def xP (x:St):Prop:= ∀(P:Nat->Prop) (w:World) (A B C:Option Addr) (n c nb cb nl cl b i:Nat) (l:List UInt8),dS w P (.slice A n c) x.ex->eq w P (.slice B nb cb) x.body->eq w P (.slice C nl cl) x.els->(∀k,P k->k<b)->ew w b->Bu w b l->l.length+(eQ x i).length<=1000000000->Calls prog 217 #[.pointer (some ⟨b,0,none⟩),.agg #[.int i64 x.k,.string (Z x.nm),.slice A n c,.slice B nb cb,.slice C nl cl],.int i64 (i:Int)] w λe w'=>e=.returned (.tuple #[])/\Bu w' b (l++eQ x i)/\FB b w w'
def mS (xs:List St):Prop:= ∀(P:Nat->Prop) (w:World) (B:Option Addr) (nb cb b i:Nat) (l:List UInt8),eq w P (.slice B nb cb) xs->(∀k,P k->k<b)->ew w b->Bu w b l->l.length+(gC i (cu xs (i+1))).length<=1000000000->
 Calls prog 121 #[.pointer (some ⟨b,0,none⟩),.slice B nb cb,.int i64 (i:Int)] w λe w'=>e=.returned (.tuple #[])/\Bu w' b (l++gC i (cu xs (i+1)))/\FB b w w'
theorem Hy (nm:List UInt8) (I X:List St) (P:Nat->Prop) (a:World) (A B C:Option Addr) (n c o z d y b i:Nat) (l:List UInt8) (V:dS a P (.slice A n c) []) (av:eq a P (.slice B o z) I) (au:eq a P (.slice C d y) X) (aD: ∀k,P k->k<b) (ap:ew a b) (w:Bu a b l) (S:List UInt8) (ar:eQ (.mk 1 nm [] I X) i=S) (aT:l.length+S.length<=1000000000):
  Calls prog 174 #[.pointer (some ⟨b,0,none⟩),.agg #[.int i64 1,.string (Z nm),.slice A n c,.slice B o z,.slice C d y],.int i64 (i:Int)] a λe w'=>e=.returned (.tuple #[])/\Bu w' b (l++S)/\FB b a w':=by
 have am:=V.len;simp only[ai]at am;obtain rfl:n=0:=am;have az:=G (show[118,97,114,32]++nm++[59]=S from by rw[<-ar];rfl);have aS:4+nm.length+1=S.length:=by rw[<-az.out];simp only[H,ag,ai]
 clear ar;have R:=G (show PS b a.heap.size a P #[.int i64 1,.string (Z nm),.slice A 0 c,.slice B o z,.slice C d y] (.slice A 0 c) (.slice B o z) (.slice C d y) (.mk 1 nm [] I X) l _ from⟨aq a 147 #[.int i64 1,.string (Z nm),.slice A 0 c,.slice B o z,.slice C d y],w.ext (aa a _),V.keep (.of_ext (aa a _)) (λ_ u _=>u),av.keep (.of_ext (aa a _)) (λ_ u _=>u),au.keep (.of_ext (aa a _)) (λ_ u _=>u),aW (aa a _) (aG w.lt),ap.fb (aW (aa a _) (aG w.lt)),bW w.lt,by decide,aD⟩);have an:=R.out.box.cell;clear w V ap av au;obtain⟨c1,af⟩: ∃c,Hid ([118,97,114,32]++nm=c):=⟨_,G rfl⟩
 have al:c1.length=4+nm.length:=by rw[<-af.out,H];(try rfl)
 have aK:(⟨#[118,97,114,32]⟩:ByteArray)++Z nm=Z c1:=by rw[<-af.out];exact eH _ _
 have aR: ¬9223372036854775807<4+nm.length:=J
 have aV: ¬9223372036854775807<nm.length+4:=J
 have aP:((⟨#[118,97,114,32]⟩:ByteArray)).size=4:=rfl;have aO:(Z nm).size=nm.length:=aZ _;obtain⟨c2,ad⟩: ∃c,Hid (c1++[59]=c):=⟨_,G rfl⟩
 have aj:c2.length=c1.length+1:=by rw[<-ad.out,H];(try rfl)
 have aJ:Z c1++(⟨#[59]⟩:ByteArray)=Z c2:=by rw[<-ad.out];exact eH _ _
 have aQ: ¬9223372036854775807<c1.length+1:=J
 have aU: ¬9223372036854775807<1+c1.length:=J
 have aN:(Z c1).size=c1.length:=aZ _;have aM:((⟨#[59]⟩:ByteArray)).size=1:=rfl;have aF:=G al;clear al;have aE:=G aj;clear aj;go_enter func174,ntmps174;go_wp2_with fail;refine aB 7 3 [] mixed Qb trivial ?_;repeat (refine sx ?_ (λaI ao=> ?_) ?_;rotate_left;(focus have aX:=(R.out.ex ao.un).box.cell;clear ao;go_simp<;>with_reducible rfl);simp only[bE,bD,bC,bB,bA])
 intro aH ah aC;clear aC;simp only[ae,aw];have F:=G (R.out.ex ah.un);clear ah an R;have an:=F.out.box.cell;go_wp2_with ((go_at_call 118;refine(c_ b l c2 _ F.out.bu (by(try have a1:=aF.out);(try have aY:=aE.out);(try simp only[H,ag,ai]);omega)).mono ?_;rintro e u2 ⟨rfl,ay,ax⟩;have aA:=G (F.out.wr ay ax);clear ay ax F))
 (try simp only[Exit.inBlock,Exit.then]);refine bodyPost_ret (results_none rfl _ _ _) rfl ?_
 exact⟨rfl,by rw[<-az.out];have:=aA.out.bu;rw[<-ad.out,<-af.out]at this;simpa[aL]using this,aA.out.fb⟩
theorem Hx (nm:List UInt8) (ax av:List St) (y:Ex) (aU:pY y) (P:Nat->Prop) (a:World) (aT B C:Option Addr) (n c I ah X af b i:Nat) (l:List UInt8) (al:dS a P (.slice aT n c) [y]) (aN:eq a P (.slice B I ah) ax) (aM:eq a P (.slice C X af) av) (u: ∀k,P k->k<b) (aJ:ew a b) (ad:Bu a b l) (S:List UInt8) (aK:eQ (.mk 1 nm [y] ax av) i=S) (bi:l.length+S.length<=1000000000):
  Calls prog 174 #[.pointer (some ⟨b,0,none⟩),.agg #[.int i64 1,.string (Z nm),.slice aT n c,.slice B I ah,.slice C X af],.int i64 (i:Int)] a λe w'=>e=.returned (.tuple #[])/\Bu w' b (l++S)/\FB b a w':=by
 have aR:=G (show[118,97,114,32]++nm++[32,61,32]++de y++[59]=S from by rw[<-aK];rfl);have aX:4+nm.length+3+(de y).length+1=S.length:=by rw[<-aR.out];simp only[H,ag,ai]
 clear aK;have aH:=al.len;simp only[ag,ai]at aH;obtain rfl:n=1:=aH;obtain⟨b0,o,a0,a1,A,F,au,ar,ap,ao,an,am,aj⟩:=al.at_ 0 Qe;simp only[aF,aP,aY,bx,cE]at au ar ap ao an am aj;obtain⟨a6,a2,rfl,_⟩:=aj.form;have R:=G (aC au (aC ar (aC ap (aC ao (aC an am)))));have a5:=G aj;clear au ar ap ao an am aj;subst a1;have d:=G (show PS b a.heap.size a P #[.int i64 1,.string (Z nm),.slice (some ⟨b0,o,none⟩) 1 c,.slice B I ah,.slice C X af] (.slice (some ⟨b0,o,none⟩) 1 c) (.slice B I ah) (.slice C X af) (.mk 1 nm [y] ax av) l _ from⟨aq a 147 #[.int i64 1,.string (Z nm),.slice (some ⟨b0,o,none⟩) 1 c,.slice B I ah,.slice C X af],ad.ext (aa a _),al.keep (.of_ext (aa a _)) (λ_ z _=>z),aN.keep (.of_ext (aa a _)) (λ_ z _=>z),aM.keep (.of_ext (aa a _)) (λ_ z _=>z),aW (aa a _) (aG ad.lt),aJ.fb (aW (aa a _) (aG ad.lt)),bW ad.lt,by decide,u⟩);have aI:=d.out.box.cell;clear ad al aJ aN aM;obtain⟨c1,az⟩: ∃c,Hid ([118,97,114,32]++nm=c):=⟨_,G rfl⟩
 have aE:c1.length=4+nm.length:=by rw[<-az.out,H];(try rfl)
 have ba:(⟨#[118,97,114,32]⟩:ByteArray)++Z nm=Z c1:=by rw[<-az.out];exact eH _ _
 have bg: ¬9223372036854775807<4+nm.length:=J
 have bk: ¬9223372036854775807<nm.length+4:=J
 have be:((⟨#[118,97,114,32]⟩:ByteArray)).size=4:=rfl;have bd:(Z nm).size=nm.length:=aZ _;obtain⟨c2,ay⟩: ∃c,Hid (c1++[32,61,32]=c):=⟨_,G rfl⟩
 have aD:c2.length=c1.length+3:=by rw[<-ay.out,H];(try rfl)
 have a9:Z c1++(⟨#[32,61,32]⟩:ByteArray)=Z c2:=by rw[<-ay.out];exact eH _ _
 have bf: ¬9223372036854775807<c1.length+3:=J
 have bj: ¬9223372036854775807<3+c1.length:=J
 have bc:(Z c1).size=c1.length:=aZ _;have bb:((⟨#[32,61,32]⟩:ByteArray)).size=3:=rfl;have a4:=G aE;clear aE;have a3:=G aD;clear aD;go_enter func174,ntmps174;go_wp2_with fail;refine aB 9 3 [] mixed Qb trivial ?_;repeat (refine sx ?_ (λa8 w=> ?_) ?_;rotate_left;(focus have bl:=(d.out.ex w.un).box.cell;have e0:=((d.out.ex w.un).fb.keepP u).cell (o) F A|>.trans R.out.1;have bq:=((d.out.ex w.un).fb.keepP u).cell (o+1) F A|>.trans R.out.2.1;have bp:=((d.out.ex w.un).fb.keepP u).cell (o+2) F A|>.trans R.out.2.2.1;have bo:=((d.out.ex w.un).fb.keepP u).cell (o+3) F A|>.trans R.out.2.2.2.1;have bn:=((d.out.ex w.un).fb.keepP u).cell (o+4) F A|>.trans R.out.2.2.2.2.1;have bm:=((d.out.ex w.un).fb.keepP u).cell (o+5) F A|>.trans R.out.2.2.2.2.2;clear w;go_simp<;>with_reducible rfl);simp only[bE,bD,bC,bB,bA])
 intro a7 aA aV;clear aV;simp only[ae,aw];have V:=G (d.out.ex aA.un);clear aA aI d;have aI:=V.out.box.cell;have bh:=aX;go_wp2_with (go_at_call 216;refine(fG y aU c2 [59] P _ a6 _ a2 b l (a5.out.keep (V.out.fb.keepP u) (λ_ z _=>z)) u V.out.tab V.out.bu (by(try have bt:=a4.out);(try have br:=a3.out);simp only[H,ag,ai];omega)).mono ?_;rintro e u2 ⟨rfl,aQ,aO⟩;have aS:=G (V.out.wr aQ aO);clear aQ aO V)
 go_end0
 exact⟨rfl,by rw[<-aR.out];have:=aS.out.bu;rw[<-ay.out,<-az.out]at this;simpa[aL]using this,aS.out.fb⟩
theorem Jl (nm:List UInt8) (ax av:List St) (y:Ex) (aS:pY y) (P:Nat->Prop) (a:World) (aR B C:Option Addr) (n c I ah X af b i:Nat) (l:List UInt8) (al:dS a P (.slice aR n c) [y]) (aK:eq a P (.slice B I ah) ax) (aJ:eq a P (.slice C X af) av) (u: ∀k,P k->k<b) (aH:ew a b) (ad:Bu a b l) (S:List UInt8) (aI:eQ (.mk 2 nm [y] ax av) i=S) (bb:l.length+S.length<=1000000000):
  Calls prog 174 #[.pointer (some ⟨b,0,none⟩),.agg #[.int i64 2,.string (Z nm),.slice aR n c,.slice B I ah,.slice C X af],.int i64 (i:Int)] a λe w'=>e=.returned (.tuple #[])/\Bu w' b (l++S)/\FB b a w':=by
 have aO:=G (show nm++[32,61,32]++de y++[59]=S from by rw[<-aI];rfl);have aU:nm.length+3+(de y).length+1=S.length:=by rw[<-aO.out];simp only[H,ag,ai]
 clear aI;have aD:=al.len;simp only[ag,ai]at aD;obtain rfl:n=1:=aD;obtain⟨b0,o,a0,aV,A,F,au,ar,ap,ao,an,am,aj⟩:=al.at_ 0 Qe;simp only[aF,aP,aY,bx,cE]at au ar ap ao an am aj;obtain⟨a3,aX,rfl,_⟩:=aj.form;have R:=G (aC au (aC ar (aC ap (aC ao (aC an am)))));have a2:=G aj;clear au ar ap ao an am aj;subst aV;have d:=G (show PS b a.heap.size a P #[.int i64 2,.string (Z nm),.slice (some ⟨b0,o,none⟩) 1 c,.slice B I ah,.slice C X af] (.slice (some ⟨b0,o,none⟩) 1 c) (.slice B I ah) (.slice C X af) (.mk 2 nm [y] ax av) l _ from⟨aq a 147 #[.int i64 2,.string (Z nm),.slice (some ⟨b0,o,none⟩) 1 c,.slice B I ah,.slice C X af],ad.ext (aa a _),al.keep (.of_ext (aa a _)) (λ_ z _=>z),aK.keep (.of_ext (aa a _)) (λ_ z _=>z),aJ.keep (.of_ext (aa a _)) (λ_ z _=>z),aW (aa a _) (aG ad.lt),aH.fb (aW (aa a _) (aG ad.lt)),bW ad.lt,by decide,u⟩);have aE:=d.out.box.cell;clear ad al aH aK aJ;obtain⟨c1,ay⟩: ∃c,Hid (nm++[32,61,32]=c):=⟨_,G rfl⟩
 have aA:c1.length=nm.length+3:=by rw[<-ay.out,H];(try rfl)
 have a6:Z nm++(⟨#[32,61,32]⟩:ByteArray)=Z c1:=by rw[<-ay.out];exact eH _ _
 have a9: ¬9223372036854775807<nm.length+3:=J
 have bc: ¬9223372036854775807<3+nm.length:=J
 have a7:(Z nm).size=nm.length:=aZ _;have a8:((⟨#[32,61,32]⟩:ByteArray)).size=3:=rfl;have a1:=G aA;clear aA;go_enter func174,ntmps174;go_wp2_with fail;refine aB 8 3 [] mixed Qb trivial ?_;repeat (refine sx ?_ (λa5 w=> ?_) ?_;rotate_left;(focus have bd:=(d.out.ex w.un).box.cell;have e0:=((d.out.ex w.un).fb.keepP u).cell (o) F A|>.trans R.out.1;have bi:=((d.out.ex w.un).fb.keepP u).cell (o+1) F A|>.trans R.out.2.1;have bh:=((d.out.ex w.un).fb.keepP u).cell (o+2) F A|>.trans R.out.2.2.1;have bg:=((d.out.ex w.un).fb.keepP u).cell (o+3) F A|>.trans R.out.2.2.2.1;have bf:=((d.out.ex w.un).fb.keepP u).cell (o+4) F A|>.trans R.out.2.2.2.2.1;have be:=((d.out.ex w.un).fb.keepP u).cell (o+5) F A|>.trans R.out.2.2.2.2.2;clear w;go_simp<;>with_reducible rfl);simp only[bE,bD,bC,bB,bA])
 intro a4 az aT;clear aT;simp only[ae,aw];have V:=G (d.out.ex az.un);clear az aE d;have aE:=V.out.box.cell;have ba:=aU;go_wp2_with (go_at_call 216;refine(fG y aS c1 [59] P _ a3 _ aX b l (a2.out.keep (V.out.fb.keepP u) (λ_ z _=>z)) u V.out.tab V.out.bu (by(try have bk:=a1.out);(try have bj:=Hzc2.out);simp only[H,ag,ai];omega)).mono ?_;rintro e u2 ⟨rfl,aN,aM⟩;have aQ:=G (V.out.wr aN aM);clear aN aM V)
 go_end0
 exact⟨rfl,by rw[<-aO.out];have:=aQ.out.bu;rw[<-ay.out]at this;simpa[aL]using this,aQ.out.fb⟩
theorem Hw (nm:List UInt8) (X V:List St) (P:Nat->Prop) (a:World) (A B C:Option Addr) (n c o z d y b i:Nat) (l:List UInt8) (R:dS a P (.slice A n c) []) (ah:eq a P (.slice B o z) X) (af:eq a P (.slice C d y) V) (ao: ∀k,P k->k<b) (ad:ew a b) (w:Bu a b l) (S:List UInt8) (ae:eQ (.mk 6 nm [] X V) i=S) (ar:l.length+S.length<=1000000000):
  Calls prog 174 #[.pointer (some ⟨b,0,none⟩),.agg #[.int i64 6,.string (Z nm),.slice A n c,.slice B o z,.slice C d y],.int i64 (i:Int)] a λe w'=>e=.returned (.tuple #[])/\Bu w' b (l++S)/\FB b a w':=by
 have I:=R.len;simp only[ai]at I;obtain rfl:n=0:=I;have am:=G (show[114,101,116,117,114,110]++[59]=S from by rw[<-ae];rfl);have ap:6+1=S.length:=by rw[<-am.out];simp only[H,ag,ai]
 clear ae;have F:=G (show PS b a.heap.size a P #[.int i64 6,.string (Z nm),.slice A 0 c,.slice B o z,.slice C d y] (.slice A 0 c) (.slice B o z) (.slice C d y) (.mk 6 nm [] X V) l _ from⟨aq a 147 #[.int i64 6,.string (Z nm),.slice A 0 c,.slice B o z,.slice C d y],w.ext (aa a _),R.keep (.of_ext (aa a _)) (λ_ u _=>u),ah.keep (.of_ext (aa a _)) (λ_ u _=>u),af.keep (.of_ext (aa a _)) (λ_ u _=>u),aW (aa a _) (aG w.lt),ad.fb (aW (aa a _) (aG w.lt)),bW w.lt,by decide,ao⟩);have au:=F.out.box.cell;clear w R ad ah af;go_enter func174,ntmps174;go_wp2_with ((go_at_call 118;refine(c_ b l [114,101,116,117,114,110,59] _ F.out.bu (by(try have aw:=Hzc1.out);(try have av:=Hzc2.out);(try simp only[H,ag,ai]);omega)).mono ?_;rintro e u2 ⟨rfl,al,aj⟩;have an:=G (F.out.wr al aj);clear al aj F))
 (try simp only[Exit.inBlock,Exit.then]);refine bodyPost_ret (results_none rfl _ _ _) rfl ?_
 exact⟨rfl,by rw[<-am.out];have:=an.out.bu;simpa[aL]using this,an.out.fb⟩
theorem Hv (nm:List UInt8) (ar ap:List St) (w:Ex) (aH:pY w) (P:Nat->Prop) (a:World) (aE B C:Option Addr) (n c V ad R I b i:Nat) (l:List UInt8) (af:dS a P (.slice aE n c) [w]) (ay:eq a P (.slice B V ad) ar) (ax:eq a P (.slice C R I) ap) (u: ∀k,P k->k<b) (av:ew a b) (X:Bu a b l) (S:List UInt8) (aw:eQ (.mk 6 nm [w] ar ap) i=S) (aO:l.length+S.length<=1000000000):
  Calls prog 174 #[.pointer (some ⟨b,0,none⟩),.agg #[.int i64 6,.string (Z nm),.slice aE n c,.slice B V ad,.slice C R I],.int i64 (i:Int)] a λe w'=>e=.returned (.tuple #[])/\Bu w' b (l++S)/\FB b a w':=by
 have aB:=G (show[114,101,116,117,114,110]++[32]++de w++[59]=S from by rw[<-aw];rfl);have aN:6+1+(de w).length+1=S.length:=by rw[<-aB.out];simp only[H,ag,ai]
 clear aw;have au:=af.len;simp only[ag,ai]at au;obtain rfl:n=1:=au;obtain⟨b0,o,a0,aI,z,A,ao,an,am,al,aj,ah,ae⟩:=af.at_ 0 Qe;simp only[aF,aP,aY,bx,cE]at ao an am al aj ah ae;obtain⟨aM,aJ,rfl,_⟩:=ae.form;have F:=G (aC ao (aC an (aC am (aC al (aC aj ah)))));have aK:=G ae;clear ao an am al aj ah ae;subst aI;have d:=G (show PS b a.heap.size a P #[.int i64 6,.string (Z nm),.slice (some ⟨b0,o,none⟩) 1 c,.slice B V ad,.slice C R I] (.slice (some ⟨b0,o,none⟩) 1 c) (.slice B V ad) (.slice C R I) (.mk 6 nm [w] ar ap) l _ from⟨aq a 147 #[.int i64 6,.string (Z nm),.slice (some ⟨b0,o,none⟩) 1 c,.slice B V ad,.slice C R I],X.ext (aa a _),af.keep (.of_ext (aa a _)) (λ_ y _=>y),ay.keep (.of_ext (aa a _)) (λ_ y _=>y),ax.keep (.of_ext (aa a _)) (λ_ y _=>y),aW (aa a _) (aG X.lt),av.fb (aW (aa a _) (aG X.lt)),bW X.lt,by decide,u⟩);have aQ:=d.out.box.cell;clear X af av ay ax;go_enter func174,ntmps174;have e0:=(d.out.fb.keepP u).cell (o) A z|>.trans F.out.1;have aV:=(d.out.fb.keepP u).cell (o+1) A z|>.trans F.out.2.1;have aU:=(d.out.fb.keepP u).cell (o+2) A z|>.trans F.out.2.2.1;have aT:=(d.out.fb.keepP u).cell (o+3) A z|>.trans F.out.2.2.2.1;have aS:=(d.out.fb.keepP u).cell (o+4) A z|>.trans F.out.2.2.2.2.1;have aR:=(d.out.fb.keepP u).cell (o+5) A z|>.trans F.out.2.2.2.2.2;go_wp2_with (go_at_call 216;refine(fG w aH [114,101,116,117,114,110,32] [59] P _ aM _ aJ b l (aK.out.keep (d.out.fb.keepP u) (λ_ y _=>y)) u d.out.tab d.out.bu (by(try have aZ:=Hzc1.out);(try have aX:=Hzc2.out);simp only[H,ag,ai];omega)).mono ?_;rintro e u2 ⟨rfl,aA,az⟩;have aD:=G (d.out.wr aA az);clear aA az d)
 go_end0
 exact⟨rfl,by rw[<-aB.out];have:=aD.out.bu;simpa[aL]using this,aD.out.fb⟩
theorem Jh (nm:List UInt8) (ar ap:List St) (w:Ex) (aH:pY w) (P:Nat->Prop) (a:World) (aE B C:Option Addr) (n c V ad R I b i:Nat) (l:List UInt8) (af:dS a P (.slice aE n c) [w]) (ay:eq a P (.slice B V ad) ar) (ax:eq a P (.slice C R I) ap) (u: ∀k,P k->k<b) (av:ew a b) (X:Bu a b l) (S:List UInt8) (aw:eQ (.mk 7 nm [w] ar ap) i=S) (aO:l.length+S.length<=1000000000):
  Calls prog 174 #[.pointer (some ⟨b,0,none⟩),.agg #[.int i64 7,.string (Z nm),.slice aE n c,.slice B V ad,.slice C R I],.int i64 (i:Int)] a λe w'=>e=.returned (.tuple #[])/\Bu w' b (l++S)/\FB b a w':=by
 have aB:=G (show de w++[59]=S from by rw[<-aw];rfl);have aN:(de w).length+1=S.length:=by rw[<-aB.out];simp only[H,ag,ai]
 clear aw;have au:=af.len;simp only[ag,ai]at au;obtain rfl:n=1:=au;obtain⟨b0,o,a0,aI,z,A,ao,an,am,al,aj,ah,ae⟩:=af.at_ 0 Qe;simp only[aF,aP,aY,bx,cE]at ao an am al aj ah ae;obtain⟨aM,aJ,rfl,_⟩:=ae.form;have F:=G (aC ao (aC an (aC am (aC al (aC aj ah)))));have aK:=G ae;clear ao an am al aj ah ae;subst aI;have d:=G (show PS b a.heap.size a P #[.int i64 7,.string (Z nm),.slice (some ⟨b0,o,none⟩) 1 c,.slice B V ad,.slice C R I] (.slice (some ⟨b0,o,none⟩) 1 c) (.slice B V ad) (.slice C R I) (.mk 7 nm [w] ar ap) l _ from⟨aq a 147 #[.int i64 7,.string (Z nm),.slice (some ⟨b0,o,none⟩) 1 c,.slice B V ad,.slice C R I],X.ext (aa a _),af.keep (.of_ext (aa a _)) (λ_ y _=>y),ay.keep (.of_ext (aa a _)) (λ_ y _=>y),ax.keep (.of_ext (aa a _)) (λ_ y _=>y),aW (aa a _) (aG X.lt),av.fb (aW (aa a _) (aG X.lt)),bW X.lt,by decide,u⟩);have aQ:=d.out.box.cell;clear X af av ay ax;go_enter func174,ntmps174;have e0:=(d.out.fb.keepP u).cell (o) A z|>.trans F.out.1;have aV:=(d.out.fb.keepP u).cell (o+1) A z|>.trans F.out.2.1;have aU:=(d.out.fb.keepP u).cell (o+2) A z|>.trans F.out.2.2.1;have aT:=(d.out.fb.keepP u).cell (o+3) A z|>.trans F.out.2.2.2.1;have aS:=(d.out.fb.keepP u).cell (o+4) A z|>.trans F.out.2.2.2.2.1;have aR:=(d.out.fb.keepP u).cell (o+5) A z|>.trans F.out.2.2.2.2.2;go_wp2_with (go_at_call 216;refine(fG w aH [] [59] P _ aM _ aJ b l (aK.out.keep (d.out.fb.keepP u) (λ_ y _=>y)) u d.out.tab d.out.bu (by(try have aZ:=Hzc1.out);(try have aX:=Hzc2.out);simp only[H,ag,ai];omega)).mono ?_;rintro e u2 ⟨rfl,aA,az⟩;have aD:=G (d.out.wr aA az);clear aA az d)
 go_end0
 exact⟨rfl,by rw[<-aB.out];have:=aD.out.bu;simpa[aL]using this,aD.out.fb⟩
theorem Jk (nm:List UInt8) (aT aS:List St) (z F:Ex) (bc:pY z) (bb:pY F) (P:Nat->Prop) (d:World) (ba B C:Option Addr) (n c al av aj au b i:Nat) (l:List UInt8) (am:dS d P (.slice ba n c) [z,F]) (a5:eq d P (.slice B al av) aT) (a4:eq d P (.slice C aj au) aS) (a: ∀k,P k->k<b) (a2:ew d b) (an:Bu d b l) (S:List UInt8) (a3:eQ (.mk 3 nm [z,F] aT aS) i=S) (bJ:l.length+S.length<=1000000000):
  Calls prog 174 #[.pointer (some ⟨b,0,none⟩),.agg #[.int i64 3,.string (Z nm),.slice ba n c,.slice B al av,.slice C aj au],.int i64 (i:Int)] d λe w'=>e=.returned (.tuple #[])/\Bu w' b (l++S)/\FB b d w':=by
 have a8:=G (show nm++[91]++de z++[93]++([32,61,32]++de F++[59])=S from by rw[<-a3];rfl);have bI:nm.length+1+(de z).length+1+(3+(de F).length+1)=S.length:=by rw[<-a8.out];simp only[H,ag,ai]
 clear a3;have a1:=am.len;simp only[ag,ai]at a1;obtain rfl:n=2:=a1;obtain⟨b0,o,a0,bf,V,I,aR,aO,aM,aJ,aH,aD,az⟩:=am.at_ 0 Qe;simp only[aF,aP,aY,bx,cE]at aR aO aM aJ aH aD az;obtain⟨br,bm,rfl,_⟩:=az.form;subst bf;obtain⟨b1,bw,a6,ao,R,X,aQ,aN,aK,aI,aE,aA,ay⟩:=am.at_ 1 Qe;simp only[aF,aP,aY,bx,cE]at aQ aN aK aI aE aA ay;obtain⟨bq,bl,rfl,_⟩:=ay.form;injection ao with ao;injection ao with ao be;subst ao be;have af:=G (aC aR (aC aO (aC aM (aC aJ (aC aH aD)))));have bp:=G az;clear aR aO aM aJ aH aD az;have ad:=G (aC aQ (aC aN (aC aK (aC aI (aC aE aA)))));have bo:=G ay;clear aQ aN aK aI aE aA ay;have w:=G (show PS b d.heap.size d P #[.int i64 3,.string (Z nm),.slice (some ⟨b0,o,none⟩) 2 c,.slice B al av,.slice C aj au] (.slice (some ⟨b0,o,none⟩) 2 c) (.slice B al av) (.slice C aj au) (.mk 3 nm [z,F] aT aS) l _ from⟨aq d 147 #[.int i64 3,.string (Z nm),.slice (some ⟨b0,o,none⟩) 2 c,.slice B al av,.slice C aj au],an.ext (aa d _),am.keep (.of_ext (aa d _)) (λ_ y _=>y),a5.keep (.of_ext (aa d _)) (λ_ y _=>y),a4.keep (.of_ext (aa d _)) (λ_ y _=>y),aW (aa d _) (aG an.lt),a2.fb (aW (aa d _) (aG an.lt)),bW an.lt,by decide,a⟩);have ax:=w.out.box.cell;clear an am a2 a5 a4;obtain⟨c1,aU⟩: ∃c,Hid (nm++[91]=c):=⟨_,G rfl⟩
 have aX:c1.length=nm.length+1:=by rw[<-aU.out,H];(try rfl)
 have bz:Z nm++(⟨#[91]⟩:ByteArray)=Z c1:=by rw[<-aU.out];exact eH _ _
 have bH: ¬9223372036854775807<nm.length+1:=J
 have bK: ¬9223372036854775807<1+nm.length:=J
 have bF:(Z nm).size=nm.length:=aZ _;have bG:((⟨#[91]⟩:ByteArray)).size=1:=rfl;have a7:=G aX;clear aX;go_enter func174,ntmps174;go_wp2_with fail;refine aB 8 3 [] mixed Qb trivial ?_;repeat (refine sx ?_ (λbv A=> ?_) ?_;rotate_left;(focus have bL:=(w.out.ex A.un).box.cell;have e0:=((w.out.ex A.un).fb.keepP a).cell (o) I V|>.trans af.out.1;have bk:=((w.out.ex A.un).fb.keepP a).cell (o+1) I V|>.trans af.out.2.1;have bj:=((w.out.ex A.un).fb.keepP a).cell (o+2) I V|>.trans af.out.2.2.1;have bi:=((w.out.ex A.un).fb.keepP a).cell (o+3) I V|>.trans af.out.2.2.2.1;have bh:=((w.out.ex A.un).fb.keepP a).cell (o+4) I V|>.trans af.out.2.2.2.2.1;have bg:=((w.out.ex A.un).fb.keepP a).cell (o+5) I V|>.trans af.out.2.2.2.2.2;clear A;go_simp<;>with_reducible rfl);simp only[bE,bD,bC,bB,bA])
 intro bt aV bd;clear bd;simp only[ae,aw];have ah:=G (w.out.ex aV.un);clear aV ax w;have ax:=ah.out.box.cell;go_wp2_with (first|(go_at_call 216;refine(fG z bc c1 [93] P _ br _ bm b l (bp.out.keep (ah.out.fb.keepP a) (λ_ y _=>y)) a ah.out.tab ah.out.bu (by(try have a6:=a7.out);(try have bn:=Hzc2.out);simp only[H,ag,ai];omega)).mono ?_;rintro e u2 ⟨rfl,ar,ap⟩;have u:=G (ah.out.wr ar ap);clear ar ap ah;clear ax;have ax:=u.out.box.cell;have e0:=(u.out.fb.keepP a).cell (o+6) X R|>.trans ad.out.1;have bk:=(u.out.fb.keepP a).cell (o+6+1) X R|>.trans ad.out.2.1;have bj:=(u.out.fb.keepP a).cell (o+6+2) X R|>.trans ad.out.2.2.1;have bi:=(u.out.fb.keepP a).cell (o+6+3) X R|>.trans ad.out.2.2.2.1;have bh:=(u.out.fb.keepP a).cell (o+6+4) X R|>.trans ad.out.2.2.2.2.1;have bg:=(u.out.fb.keepP a).cell (o+6+5) X R|>.trans ad.out.2.2.2.2.2)|(go_at_call 216;refine(fG F bb [32,61,32] [59] P _ bq _ bl b (l++(c1++de z++[93])) (bo.out.keep (u.out.fb.keepP a) (λ_ y _=>y)) a u.out.tab u.out.bu (by(try have a6:=a7.out);(try have bn:=Hzc2.out);simp only[H,ag,ai];omega)).mono ?_;rintro e u3 ⟨rfl,ar,ap⟩;have a9:=G (u.out.wr ar ap);clear ar ap u))
 go_end0
 exact⟨rfl,by rw[<-a8.out];have:=a9.out.bu;rw[<-aU.out]at this;simpa[aL]using this,a9.out.fb⟩
theorem Ji (nm:List UInt8) (V aw:List St) (w:Ex) (aK:pY w) (ay:mS V) (P:Nat->Prop) (a:World) (aJ B C:Option Addr) (n c z R ad aj b i:Nat) (l:List UInt8) (am:dS a P (.slice aJ n c) [w]) (aE:eq a P (.slice B z R) V) (aD:eq a P (.slice C ad aj) aw) (o: ∀k,P k->k<b) (aA:ew a b) (ae:Bu a b l) (S:List UInt8) (aB:eQ (.mk 5 nm [w] V aw) i=S) (aU:l.length+S.length<=1000000000):
  Calls prog 174 #[.pointer (some ⟨b,0,none⟩),.agg #[.int i64 5,.string (Z nm),.slice aJ n c,.slice B z R,.slice C ad aj],.int i64 (i:Int)] a λe w'=>e=.returned (.tuple #[])/\Bu w' b (l++S)/\FB b a w':=by
 have aH:=G (show[119,104,105,108,101,32]++de w++[32]++gC i (cu V (i+1))=S from by rw[<-aB];rfl);have aT:6+(de w).length+1+(gC i (cu V (i+1))).length=S.length:=by rw[<-aH.out];simp only[H,ag,ai]
 clear aB;have ax:=am.len;simp only[ag,ai]at ax;obtain rfl:n=1:=ax;obtain⟨b0,u,a0,aM,A,F,av,au,ar,ap,ao,an,al⟩:=am.at_ 0 Qe;simp only[aF,aP,aY,bx,cE]at av au ar ap ao an al;obtain⟨aS,aN,rfl,_⟩:=al.form;have X:=G (aC av (aC au (aC ar (aC ap (aC ao an)))));have aR:=G al;clear av au ar ap ao an al;subst aM;have d:=G (show PS b a.heap.size a P #[.int i64 5,.string (Z nm),.slice (some ⟨b0,u,none⟩) 1 c,.slice B z R,.slice C ad aj] (.slice (some ⟨b0,u,none⟩) 1 c) (.slice B z R) (.slice C ad aj) (.mk 5 nm [w] V aw) l _ from⟨aq a 147 #[.int i64 5,.string (Z nm),.slice (some ⟨b0,u,none⟩) 1 c,.slice B z R,.slice C ad aj],ae.ext (aa a _),am.keep (.of_ext (aa a _)) (λ_ y _=>y),aE.keep (.of_ext (aa a _)) (λ_ y _=>y),aD.keep (.of_ext (aa a _)) (λ_ y _=>y),aW (aa a _) (aG ae.lt),aA.fb (aW (aa a _) (aG ae.lt)),bW ae.lt,by decide,o⟩);have az:=d.out.box.cell;clear ae am aA aE aD;unfold mS at ay;go_enter func174,ntmps174;have e0:=(d.out.fb.keepP o).cell (u) F A|>.trans X.out.1;have a2:=(d.out.fb.keepP o).cell (u+1) F A|>.trans X.out.2.1;have a1:=(d.out.fb.keepP o).cell (u+2) F A|>.trans X.out.2.2.1;have aZ:=(d.out.fb.keepP o).cell (u+3) F A|>.trans X.out.2.2.2.1;have aX:=(d.out.fb.keepP o).cell (u+4) F A|>.trans X.out.2.2.2.2.1;have aV:=(d.out.fb.keepP o).cell (u+5) F A|>.trans X.out.2.2.2.2.2;go_wp2_with (first|(go_at_call 216;refine(fG w aK [119,104,105,108,101,32] [32] P _ aS _ aN b l (aR.out.keep (d.out.fb.keepP o) (λ_ y _=>y)) o d.out.tab d.out.bu (by(try have aQ:=Hzc1.out);(try have aO:=Hzc2.out);simp only[H,ag,ai];omega)).mono ?_;rintro e u1 ⟨rfl,ah,af⟩;have I:=G (d.out.wr ah af);clear ah af d;clear az;have az:=I.out.box.cell)|(go_at_call 121;refine(ay P _ B z R b i (l++([119,104,105,108,101,32]++de w++[32])) I.out.rb o I.out.tab I.out.bu (by(try have aQ:=Hzc1.out);(try have aO:=Hzc2.out);simp only[H,ag,ai];omega)).mono ?_;rintro e u2 ⟨rfl,ah,af⟩;have aI:=G (I.out.wr ah af);clear ah af I))
 go_end0
 exact⟨rfl,by rw[<-aH.out];have:=aI.out.bu;simpa[aL]using this,aI.out.fb⟩
theorem Jj (nm:List UInt8) (V R:List St) (xs:List Ex) (X:xP (.mk 4 nm xs V R)) (P:Nat->Prop) (a:World) (z B C:Option Addr) (n c u y o w b i:Nat) (l:List UInt8) (af:dS a P (.slice z n c) xs) (ae:eq a P (.slice B u y) V) (ad:eq a P (.slice C o w) R) (ag: ∀k,P k->k<b) (I:ew a b) (F:Bu a b l) (S:List UInt8) (H:eQ (.mk 4 nm xs V R) i=S) (al:l.length+S.length<=1000000000):
  Calls prog 174 #[.pointer (some ⟨b,0,none⟩),.agg #[.int i64 4,.string (Z nm),.slice z n c,.slice B u y,.slice C o w],.int i64 (i:Int)] a λe w'=>e=.returned (.tuple #[])/\Bu w' b (l++S)/\FB b a w':=by
 unfold xP at X;have d:=G (show PS b a.heap.size a P #[.int i64 4,.string (Z nm),.slice z n c,.slice B u y,.slice C o w] (.slice z n c) (.slice B u y) (.slice C o w) (.mk 4 nm xs V R) l _ from⟨aq a 147 #[.int i64 4,.string (Z nm),.slice z n c,.slice B u y,.slice C o w],F.ext (aa a _),af.keep (.of_ext (aa a _)) (λ_ A _=>A),ae.keep (.of_ext (aa a _)) (λ_ A _=>A),ad.keep (.of_ext (aa a _)) (λ_ A _=>A),aW (aa a _) (aG F.lt),I.fb (aW (aa a _) (aG F.lt)),bW F.lt,by decide,ag⟩);have am:=d.out.box.cell;clear F af I ae ad;go_enter func174,ntmps174;go_wp2_with (go_at_call 217;refine(X P _ z B C n c u y o w b i l d.out.re d.out.rb d.out.rl ag d.out.tab d.out.bu (by rw[H];exact al)).mono ?_;rintro e u1 ⟨rfl,ai,ah⟩;have aj:=G (d.out.wr ai ah);clear ai ah d)
 go_end0
 exact⟨rfl,by rw[<-H];exact aj.out.bu,aj.out.fb⟩
end
end Go.Proofs.YtoedmpgicdekmaaGreatDoor
