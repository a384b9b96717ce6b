/- WholeOver: for every input the law returns true; each argument reads afterwards as before. No condition. -/
import Derived.Test.YtdbmifjankgfpaaGreatDoorKA41
import Derived.Test.YtdbmifjankgfpaaGreatDoorTie
import Derived.Test.YtdbmifjankgfpaaGreatDoorCards
import Derived.Lay
set_option linter.all false
set_option maxRecDepth 100000
open Go.Proofs.Tryz
namespace Go.Proofs.YtdbmifjankgfpaaGreatDoor.wholeOver
open Go.ChangeShapes Go.WideShapes Go.ChangeAt Go.RowKit Go.Proofs.YtdbmifjankgfpaaGreatDoor
open Go.ChangeMaps (open_string shut_string)
def xM:=@trodAll_cons_mk
def Zw:=@trodAll_cons
theorem own :ownKnob prog.godebug=none:=by kernel_rfl
theorem lifted (os:Os)(started:os.Started)(H:Type)(enc:TypeId×Value->H):
 ReturnsInHanded {} checked os 5 .any (fun w args=>(Rows.wholeOverSpec.pre enc prog f5 [] false w args/\laidMetH prog Rows.wholeOverRow.laid w)/\sizedMet enc prog f5 (OpenSpec.ofChange Rows.wholeOverSpec) false w args) (Rows.wholeOverSpec.post enc prog f5 false true false false):=by
 refine returnsInHanded_of_change_and (C:=checked) (X:=fun w _=>laidMetH prog Rows.wholeOverRow.laid w) (fun _ _ _ y h=>h.of_heap y) own started (by kernel_rfl) func5
  (ChangeSpec.witness_shaped (enc:=enc) (C:=checked) (os:=os) (X:=fun w _=>laidMetH prog Rows.wholeOverRow.laid w) false (World.laidAll prog os Rows.wholeOverRow.laid) #[.int .u8 0,.int .u16 0,.int .u32 0,.int .u32 0] 8 (World.laidAll_os _ _ _)
   (World.shaped_of_ZipB (by kernel_rfl) (by kernel_rfl)) (by kernel_rfl) (by kernel_rfl) (by kernel_rfl)
   (by rw[ZZ _ _ _ (by kernel_rfl)];exact laidMet_laidAll _ (by kernel_rfl) (by kernel_rfl))) ?_
 intro W base args x Y af n m _ _ G _;have b:∀(j:Nat) t v,f5.params[j]?=some t->args[j]?=some v->Value.okWide prog W .any base t v:=n;have c:=m;obtain⟨p,q,i,J,rfl,L,tT⟩:=m;have l:DataW.TrodAll enc prog W 0 (fun _=>true) true f5.params.toList args.toList x p:=i;rw[params5]at l b;obtain⟨v0,ad,d0,Z,p0,q0,U,rfl,rfl,B,E⟩:=Zw l;obtain⟨r,ae,d1,S,R,q1,rfl,rfl,rfl,I,F⟩:=Zw E;obtain⟨v2,ab,d2,M,p2,q2,rfl,rfl,rfl,D,K⟩:=Zw F;obtain⟨v3,N,d3,aa,p3,q3,rfl,rfl,rfl,A,u⟩:=Zw K;obtain⟨rfl,rfl,rfl⟩:=trodAll_nil u;obtain rfl:args= #[v0,r,v2,v3]:=by cases args;simp_all
 obtain⟨rfl,rfl⟩:=trodVars_none J;obtain⟨a0,rfl,rfl,rfl,d⟩:=open_int yb (b 0 5 v0 rfl rfl) B;obtain⟨z,rfl,rfl,rfl,k⟩:=open_int underlying64 (b 1 64 r rfl rfl) I;obtain⟨a2,rfl,rfl,rfl,o⟩:=open_int Zp (b 2 22 v2 rfl rfl) D;obtain⟨a3,rfl,rfl,rfl,w3⟩:=open_int Zp (b 3 22 v3 rfl rfl) A;clear i n;simp only[yO]at c;refine(GB a0 z a2 a3 W d k o w3 (Lh G)).mono fun e O ⟨s,bel⟩=> ?_
 subst s;exact⟨_,rfl,_,_,_,[],_,[],c,trodAll_mk1 (shut_bool underlying4 _),(xM (shut_int yb d) (xM (shut_int underlying64 k) (xM (shut_int Zp o) (xM (shut_int Zp w3) trodAll_mk0)))),rfl,bel.frame _,fun h=>by cases h⟩
theorem over :Rows.wholeOverRow.holds Tryz.pinned (OpenSpec.ofChange Rows.wholeOverSpec):=
 OpenClaim.holds_of_wide 5 f5 rfl rfl rfl rfl rfl rfl rfl ⟨rfl,rfl,rfl,rfl,rfl⟩ rfl rfl rfl rfl rfl (by kernel_rfl) func5 (by kernel_rfl)
  (ye (by kernel_rfl)) (by unfold Func.isWrapper;first|(rw[zi (by decide+kernel)];kernel_rfl)|(rw[zh (by decide+kernel)];exact⟨rfl,rfl⟩))
  (fun os started H enc _=>lifted os started H enc)
theorem proved :Rows.WholeOverCardSaid:=
 Claim7.holds_tied_plain_at .later [] [.data,.data,.data,.pinned] true (true, "51f278aba1a934dcf767831a51ab009816846d7dcd76e1fc6d8c547428f6282c") false over (fun _ h=>by cases h) (by kernel_rfl) (fun _ h=>by cases h) wholeOver_row_tie rfl ⟨rfl,rfl⟩ (by kernel_rfl) rfl
  (fun f fn c i=>by
   obtain rfl:f=5:=yh ((show prog.funcNamed Rows.wholeOverRow.func=some 5 by kernel_rfl).symm.trans c)|>.symm;obtain rfl:fn=f5:=(yh (func5.symm.trans i)).symm;exact⟨by kernel_rfl,fun j t b=>by
    rw[params5]at b;have d:t∈ [5,64,22,22]:=by simpa using Yp b
    have e:([5,64,22,22].all fun u=> !prog.wantsStandIn u)=true:=by kernel_rfl
    exact(show prog.wantsStandIn t=false by simpa using Za.1 e t d)⟩)
  (by kernel_rfl)
#print axioms proved
