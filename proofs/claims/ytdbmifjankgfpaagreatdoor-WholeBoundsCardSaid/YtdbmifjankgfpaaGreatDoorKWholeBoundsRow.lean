/- WholeBounds: for every input the law returns true; each argument reads afterwards as before. No condition. -/
import Derived.Test.YtdbmifjankgfpaaGreatDoorKA43
import Derived.Test.YtdbmifjankgfpaaGreatDoorTie
import Derived.Test.YtdbmifjankgfpaaGreatDoorCards
import Derived.Lay
set_option linter.all false
set_option maxRecDepth 100000
open Go.Proofs.Tryz
namespace Go.Proofs.YtdbmifjankgfpaaGreatDoor.wholeBounds
open Go.ChangeShapes Go.WideShapes Go.ChangeAt Go.RowKit Go.Proofs.YtdbmifjankgfpaaGreatDoor
open Go.ChangeMaps (open_string shut_string)
theorem own :ownKnob prog.godebug=none:=by kernel_rfl
theorem laid :laidOutB prog=true:=by kernel_rfl
theorem lifted (os:Os)(started:os.Started)(H:Type)(enc:TypeId×Value->H):
 ReturnsInHanded {} checked os 6 .any (fun w args=>(Rows.wholeBoundsSpec.pre enc prog f6 [] false w args/\laidMetH prog Rows.wholeBoundsRow.laid w)/\sizedMet enc prog f6 (OpenSpec.ofChange Rows.wholeBoundsSpec) false w args) (Rows.wholeBoundsSpec.post enc prog f6 false true false false):=by
 refine returnsInHanded_of_change_and (C:=checked) (X:=fun w _=>laidMetH prog Rows.wholeBoundsRow.laid w) (fun _ _ _ E h=>h.of_heap E) own started (by kernel_rfl) func6
  (ChangeSpec.witness_shaped (enc:=enc) (C:=checked) (os:=os) (X:=fun w _=>laidMetH prog Rows.wholeBoundsRow.laid w) false (World.laidAll prog os Rows.wholeBoundsRow.laid) #[.agg #[.int .i64 0,.int .u32 0,.int .i64 0,.int .i64 0,.int .i64 0,.int .i64 0],.slice none 0 0,.slice none 0 0] 8 (World.laidAll_os _ _ _)
   (World.shaped_of_ZipB (by kernel_rfl) (by kernel_rfl)) (by kernel_rfl) (by kernel_rfl) (by kernel_rfl)
   (by rw[MakeChecks.laidMetH_plain _ _ _ (by kernel_rfl)];exact laidMet_laidAll _ (by kernel_rfl) (by kernel_rfl))) ?_
 intro W base args S gs aa s u _ _ R _;have d:∀(j:Nat) t v,f6.params[j]?=some t->args[j]?=some v->Value.okWide prog W .any base t v:=s;have z:=u;obtain⟨p,q,r,B,rfl,ab,oo⟩:=u;have y:DataW.TrodAll enc prog W 0 (fun _=>true) true f6.params.toList args.toList S p:=r;rw[params6]at y d;obtain⟨v0,ag,d0,ah,D,q0,aj,rfl,rfl,l,Y⟩:=trodAll_cons y;obtain⟨o,af,d1,ae,K,q1,rfl,rfl,rfl,m,A⟩:=trodAll_cons Y;obtain⟨v2,ai,d2,ad,p2,q2,rfl,rfl,rfl,n,L⟩:=trodAll_cons A;obtain⟨rfl,rfl,rfl⟩:=trodAll_nil L;obtain rfl:args= #[v0,o,v2]:=by cases args;simp_all
 obtain⟨rfl,rfl⟩:=trodVars_none B;have F:∀x∈D,x.block<W.heap.size:=fun x hx=>by obtain⟨c,b⟩:=l;exact DataW.trod_lt c _ _ _ b x hx
 obtain⟨U,rfl,J⟩:=MP (d 0 24 v0 rfl rfl) l;have Z:∀x∈K,x.block<W.heap.size:=fun x hx=>by obtain⟨c,b⟩:=m;exact DataW.trod_lt c _ _ _ b x hx
 obtain⟨G,u1,k,N⟩:=ID (d 1 25 o rfl rfl) m;replace k:=k.symm;subst k;have Gi:∀x∈p2,x.block<W.heap.size:=fun x hx=>by obtain⟨c,b⟩:=n;exact DataW.trod_lt c _ _ _ b x hx
 obtain⟨O,I,i,M⟩:=IC (d 2 51 v2 rfl rfl) n;replace i:=i.symm;subst i;clear r s;simp only[yW]at z;refine(AY U G u1 O I W J N M (UA R)).mono fun e W' ⟨he,bel⟩=> ?_
 subst he;exact⟨_,rfl,_,_,_,[],_,[],z,trodAll_mk1 (shut_bool underlying4 _),(trodAll_cons_mk (Below.trod laid (by kernel_rfl) (yj (by kernel_rfl)) l bel F) (trodAll_cons_mk (Below.trod laid (by kernel_rfl) (yj (by kernel_rfl)) m bel Z) (trodAll_cons_mk (Below.trod laid (by kernel_rfl) (yj (by kernel_rfl)) n bel Gi) trodAll_mk0))),rfl,bel.frame _,fun h=>by cases h⟩
theorem over :Rows.wholeBoundsRow.holds Tryz.pinned (OpenSpec.ofChange Rows.wholeBoundsSpec):=
 OpenClaim.holds_of_wide 6 f6 rfl rfl rfl rfl rfl rfl rfl ⟨rfl,rfl,rfl,rfl,rfl⟩ rfl rfl rfl rfl rfl (by kernel_rfl) func6 (by kernel_rfl)
  (yj (by kernel_rfl)) (by unfold Func.isWrapper;first|(rw[zi (by decide+kernel)];kernel_rfl)|(rw[zh (by decide+kernel)];exact⟨rfl,rfl⟩))
  (fun os started H enc _=>lifted os started H enc)
theorem proved :Rows.WholeBoundsCardSaid:=
 Claim7.holds_tied_plain_at .later [] [.data,.data,.data,.pinned] true (true, "51f278aba1a934dcf767831a51ab009816846d7dcd76e1fc6d8c547428f6282c") false over (fun _ h=>by cases h) (by kernel_rfl) (fun _ h=>by cases h) wholeBounds_row_tie rfl ⟨rfl,rfl⟩ (by kernel_rfl) rfl
  (fun f fn e d=>by
   obtain rfl:f=6:=yp ((show prog.funcNamed Rows.wholeBoundsRow.func=some 6 by kernel_rfl).symm.trans e)|>.symm;obtain rfl:fn=f6:=(yp (func6.symm.trans d)).symm;exact⟨by kernel_rfl,fun j t b=>by
    rw[params6]at b;have c:t∈ [24,25,51]:=by simpa using Array.mem_of_getElem? b
    have i:([24,25,51].all fun u=> !prog.wantsStandIn u)=true:=by kernel_rfl
    exact(show prog.wantsStandIn t=false by simpa using Zw.1 i t c)⟩)
  (by kernel_rfl)
#print axioms proved
