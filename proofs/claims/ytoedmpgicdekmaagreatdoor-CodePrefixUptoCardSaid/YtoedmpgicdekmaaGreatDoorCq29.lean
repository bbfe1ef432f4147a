/-
  Parts of the proof: ExB.
-/
import Derived.Test.YtoedmpgicdekmaaGreatDoorCq00
import Derived.Test.YtoedmpgicdekmaaGreatDoorCq26
import Derived.Test.YtoedmpgicdekmaaGreatDoorCq25
set_option maxRecDepth 100000
set_option maxHeartbeats 8000000
set_option linter.unusedVariables false
set_option linter.unusedSimpArgs false
set_option linter.unusedSectionVars false
namespace Go.Proofs.YtoedmpgicdekmaaGreatDoor
open Go.Proofs.Tryz
open Go.RowKit
theorem gB (n:Int):IntKind.u8.wrap n=((b8 n).toNat:Int):=by
 unfold b8;rw[dq];simp[IntKind.wrap,IntKind.signed,IntKind.bits];omega
theorem qs {w:World} {g:Nat} {e:TypeId} {a b c d:UInt8} (h:aP w g e #[.int .u8 (a.toNat:Int), .int .u8 (b.toNat:Int), .int .u8 (c.toNat:Int), .int .u8 (d.toNat:Int)]):Sl w (some ⟨g,0,none⟩) 4 [a,b,c,d]:=
 ⟨by simp,by decide,fun h=>(by cases h), .inr ⟨g,0,rfl,h.lt,fun i hi=>by
  rw[h.cell]
  match i,hi with
  |0,_=>rfl
  |1,_=>rfl
  |2,_=>rfl
  |3,_=>rfl⟩⟩
def Gz (x:cQ) (e:Ending) (w':World):Prop:=(em x=true/\ ∃g,e= .returned (.tuple #[.slice (some ⟨g,0,none⟩) 4 4, .int .i64 0])/\Sl w' (some ⟨g,0,none⟩) 4 (jd x))\/(em x=false/\e= .returned (.tuple #[.slice none 0 0, .int .i64 1]))
theorem up (x:cQ) (w:World) (hF:FT w):Calls prog 74 #[x.val] w fun e w'=>au w w'/\Gz x e w':=by
 have HLg:=G (fun W (h:au w W)=>kF x W (hF.ext h));obtain⟨k,a,b,c,v⟩:=x;have HE:=G (show jd ⟨k,a,b,c,v⟩=if(gL k).2.2.2.2.1=true then[b8 k,b8 a,b8 (v/256),b8 v]else[b8 k,b8 a,b8 b,b8 c]from rfl)
 have HK:=G (show em ⟨k,a,b,c,v⟩=true->k<23 from fun h=>by
  unfold em at h;simp only[ak,decide_eq_true_eq]at h
  omega)
 unfold cQ.val at*;simp only at*;obtain⟨L,hL⟩: ∃L,em ⟨k,a,b,c,v⟩=L:=⟨_,rfl⟩
 have HL:=G hL;rw[hL]at HLg HK;clear hL;have hX:=aa w (.cells #[.int .i64 k, .int .i64 a, .int .i64 b, .int .i64 c, .int .i64 v] 159);have HX:=G hX;have HB:=G (aw w 159 #[.int .i64 k, .int .i64 a, .int .i64 b, .int .i64 c, .int .i64 v]);have HF:=G hF;clear hF hX;go_enter func74,ntmps74
 go_upto_region 1 with fail
 generalize World.alloc w _=W0 at*;have c0:=HB.out.cell
 cases L with
 |false=>
  go_wp2_with (go_at_call 134;refine(HLg.out _ HX.out).mono ?_;rintro e w1 ⟨rfl,hE⟩;have HX1:=G (HX.out.trans hE);clear HLg hE c0);go_ret2;exact⟨HX1.out, .inr ⟨HL.out,rfl⟩⟩
 |true=>
  have hk:=HK.out rfl
  go_upto_region 3 with(go_at_call 134;refine(HLg.out _ HX.out).mono ?_;rintro e w1 ⟨rfl,hE⟩;have HX1:=G (HX.out.trans hE);have HB1:=G (HB.out.ext hE);clear HLg hE c0 HX HB)
  have c0:=HB1.out.cell;obtain⟨f0,f1,f2,f3,f4,f5⟩:=(HF.out.ext HX1.out).row k hk;have hki:(k:Int)<23:=by omega
  have w1k:=gB (k:Int);have w1a:=gB a;have w1b:=gB b;have w1c:=gB c;have w1v:=gB v;have w1w:=gB (v/256);generalize b8 (k:Int)=q0 at*;generalize b8 a=q1 at*;generalize b8 b=q2 at*;generalize b8 c=q3 at*;generalize b8 v=q4 at*;generalize b8 (v/256)=q5 at*;generalize (gL k).2.2.2.2.1=fv at*;clear f0 f1 f2 f3 f5
  cases fv with
  |true=>
   rw[if_pos rfl]at HE;go_wp2_with fail;go_ret2;exact⟨HX1.out.alloc' _, .inl ⟨HL.out,_,rfl,by rw[HE.out];exact qs (aw w1 _ _)⟩⟩
  |false=>
   rw[if_neg (by decide)]at HE;go_wp2_with fail;go_ret2;exact⟨HX1.out.alloc' _, .inl ⟨HL.out,_,rfl,by rw[HE.out];exact qs (aw w1 _ _)⟩⟩
end Go.Proofs.YtoedmpgicdekmaaGreatDoor
