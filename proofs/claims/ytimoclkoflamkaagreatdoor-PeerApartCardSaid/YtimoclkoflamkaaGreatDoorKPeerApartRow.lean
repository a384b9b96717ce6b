/- PeerApart: for every input the law returns true; each argument reads afterwards as before. No condition. -/
import Derived.Test.YtimoclkoflamkaaGreatDoorKA41
import Derived.Test.YtimoclkoflamkaaGreatDoorTie
import Derived.Test.YtimoclkoflamkaaGreatDoorCards
import Derived.Lay
set_option linter.all false
set_option maxRecDepth 100000
open Go.Proofs.Tryz
namespace Go.Proofs.YtimoclkoflamkaaGreatDoor.peerApart
open Go.ChangeShapes Go.WideShapes Go.ChangeAt Go.RowKit Go.Proofs.YtimoclkoflamkaaGreatDoor
open Go.ChangeMaps (open_string shut_string)
theorem own :ownKnob prog.godebug=none:=by kernel_rfl
theorem laid :laidOutB prog=true:=by kernel_rfl
theorem lifted (os:Os)(started:os.Started)(H:Type)(enc:TypeId×Value->H):
 ReturnsInHanded {} checked os 3 .any (fun w args=>(Rows.peerApartSpec.pre enc prog f3 [] false w args/\laidMetH prog Rows.peerApartRow.laid w)/\sizedMet enc prog f3 (OpenSpec.ofChange Rows.peerApartSpec) false w args) (Rows.peerApartSpec.post enc prog f3 false true false false):=by
 refine returnsInHanded_of_change_and (C:=checked) (X:=fun w _=>laidMetH prog Rows.peerApartRow.laid w) (fun _ _ _ M h=>h.of_heap M) own started (by kernel_rfl) func3
  (ChangeSpec.witness_shaped (enc:=enc) (C:=checked) (os:=os) (X:=fun w _=>laidMetH prog Rows.peerApartRow.laid w) false (World.laidAll prog os Rows.peerApartRow.laid) #[.agg #[.int .i64 0,.int .u32 0,.int .i64 0,.int .i64 0,.int .i64 0,.int .i64 0],.slice none 0 0,.agg #[.string ByteArray.empty,.string ByteArray.empty,.bool false,.slice none 0 0]] 8 (World.laidAll_os _ _ _)
   (World.shaped_of_ZipB (by kernel_rfl) (by kernel_rfl)) (by kernel_rfl) (by kernel_rfl) (by kernel_rfl)
   (by rw[MakeChecks.laidMetH_plain _ _ _ (by kernel_rfl)];exact laidMet_laidAll _ (by kernel_rfl) (by kernel_rfl))) ?_
 intro W base args J gs af y s _ _ B _;have d:∀(j:Nat) t v,f3.params[j]?=some t->args[j]?=some v->Value.okWide prog W .any base t v:=y;have o:=s;obtain⟨p,q,r,hV,rfl,ae,uF⟩:=s;have u:DataW.TrodAll enc prog W 0 (fun _=>true) true f3.params.toList args.toList J p:=r;rw[params3]at u d;obtain⟨v0,ah,d0,ad,z,q0,ab,rfl,rfl,m,D⟩:=trodAll_cons u;obtain⟨n,ai,d1,aj,Z,q1,rfl,rfl,rfl,k,I⟩:=trodAll_cons D;obtain⟨v2,ag,d2,ak,A,q2,rfl,rfl,rfl,i,G⟩:=trodAll_cons I;obtain⟨rfl,rfl,rfl⟩:=trodAll_nil G;obtain rfl:args= #[v0,n,v2]:=by cases args;simp_all
 obtain⟨rfl,rfl⟩:=trodVars_none hV;have nJ:∀x∈z,x.block<W.heap.size:=fun x hx=>by obtain⟨c,b⟩:=m;exact DataW.trod_lt c _ _ _ b x hx
 obtain⟨S,rfl,Y⟩:=MG (d 0 24 v0 rfl rfl) m;have O:∀x∈Z,x.block<W.heap.size:=fun x hx=>by obtain⟨c,b⟩:=k;exact DataW.trod_lt c _ _ _ b x hx
 obtain⟨L,K,l,R⟩:=JE (d 1 25 n rfl rfl) k;replace l:=l.symm;subst l;have F:∀x∈A,x.block<W.heap.size:=fun x hx=>by obtain⟨c,b⟩:=i;exact DataW.trod_lt c _ _ _ b x hx
 obtain⟨n2,x2,E,U,aa,rfl,N⟩:=NQ (d 2 30 v2 rfl rfl) i;clear r y;simp only[yT]at o;refine(Gu S L K n2 x2 E U aa W Y R N (T3 B)).mono fun e W' ⟨he,bel⟩=> ?_
 subst he;exact⟨_,rfl,_,_,_,[],_,[],o,trodAll_mk1 (shut_bool underlying4 _),(trodAll_cons_mk (Below.trod laid (by kernel_rfl) (yf (by kernel_rfl)) m bel nJ) (trodAll_cons_mk (Below.trod laid (by kernel_rfl) (yf (by kernel_rfl)) k bel O) (trodAll_cons_mk (Below.trod laid (by kernel_rfl) (yf (by kernel_rfl)) i bel F) trodAll_mk0))),rfl,bel.frame _,fun h=>by cases h⟩
theorem over :Rows.peerApartRow.holds Tryz.pinned (OpenSpec.ofChange Rows.peerApartSpec):=
 OpenClaim.holds_of_wide 3 f3 rfl rfl rfl rfl rfl rfl rfl ⟨rfl,rfl,rfl,rfl,rfl⟩ rfl rfl rfl rfl rfl (by kernel_rfl) func3 (by kernel_rfl)
  (yf (by kernel_rfl)) (by unfold Func.isWrapper;first|(rw[zj (by decide+kernel)];kernel_rfl)|(rw[zi (by decide+kernel)];exact⟨rfl,rfl⟩))
  (fun os started H enc _=>lifted os started H enc)
theorem proved :Rows.PeerApartCardSaid:=
 Claim7.holds_tied_plain_at .later [] [.data,.data,.data,.pinned] true (true, "90238ebd4251930a19804b872375551290112267c1049f2238ee14dcabdff21b") false over (fun _ h=>by cases h) (by kernel_rfl) (fun _ h=>by cases h) peerApart_row_tie rfl ⟨rfl,rfl⟩ (by kernel_rfl) rfl
  (fun f fn i c=>by
   obtain rfl:f=3:=yl ((show prog.funcNamed Rows.peerApartRow.func=some 3 by kernel_rfl).symm.trans i)|>.symm;obtain rfl:fn=f3:=(yl (func3.symm.trans c)).symm;exact⟨by kernel_rfl,fun j t b=>by
    rw[params3]at b;have e:t∈ [24,25,30]:=by simpa using Array.mem_of_getElem? b
    have d:([24,25,30].all fun u=> !prog.wantsStandIn u)=true:=by kernel_rfl
    exact(show prog.wantsStandIn t=false by simpa using ZH.1 d t e)⟩)
  (by kernel_rfl)
#print axioms proved
