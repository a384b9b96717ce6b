/- SessionMixed: for every input the law returns true; each argument reads afterwards as before. No condition. -/
import Derived.Test.YtpjgigllldipiaaGreatDoorKA44
import Derived.Test.YtpjgigllldipiaaGreatDoorTie
import Derived.Test.YtpjgigllldipiaaGreatDoorCards
import Derived.Lay
set_option linter.all false
set_option maxRecDepth 100000
open Go.Proofs.Tryz
namespace Go.Proofs.YtpjgigllldipiaaGreatDoor.sessionMixed
open Go.ChangeShapes Go.WideShapes Go.ChangeAt Go.RowKit Go.Proofs.YtpjgigllldipiaaGreatDoor
open Go.ChangeMaps (open_string shut_string)
theorem own :ownKnob prog.godebug=none:=by kernel_rfl
theorem laid :laidOutB prog=true:=by kernel_rfl
theorem lifted (os:Os)(started:os.Started)(H:Type)(enc:TypeId×Value->H):
 ReturnsInHanded {} checked os 4 .any (fun w args=>(Rows.sessionMixedSpec.pre enc prog f4 [] false w args/\laidMetH prog Rows.sessionMixedRow.laid w)/\sizedMet enc prog f4 (OpenSpec.ofChange Rows.sessionMixedSpec) false w args) (Rows.sessionMixedSpec.post enc prog f4 false true false false):=by
 refine returnsInHanded_of_change_and (C:=checked) (X:=fun w _=>laidMetH prog Rows.sessionMixedRow.laid w) (fun _ _ _ G h=>h.of_heap G) own started (by kernel_rfl) func4
  (ChangeSpec.witness_shaped (enc:=enc) (C:=checked) (os:=os) (X:=fun w _=>laidMetH prog Rows.sessionMixedRow.laid w) false (World.laidAll prog os Rows.sessionMixedRow.laid) #[.agg #[.int .i64 0,.int .u32 0,.int .i64 0,.int .i64 0,.int .i64 0,.int .i64 0],.slice none 0 0,.slice none 0 0] 8 (World.laidAll_os _ _ _)
   (World.shaped_of_ZipB (by kernel_rfl) (by kernel_rfl)) (by kernel_rfl) (by kernel_rfl) (by kernel_rfl)
   (by rw[MakeChecks.laidMetH_plain _ _ _ (by kernel_rfl)];exact laidMet_laidAll _ (by kernel_rfl) (by kernel_rfl))) ?_
 intro W base args L gs aj o z _ _ hL _;have d:∀(j:Nat) t v,f4.params[j]?=some t->args[j]?=some v->Value.okWide prog W .any base t v:=o;have r:=z;obtain⟨p,q,u,B,rfl,ag,tM⟩:=z;have s:DataW.TrodAll enc prog W 0 (fun _=>true) true f4.params.toList args.toList L p:=u;rw[params4]at s d;obtain⟨v0,aa,d0,ai,E,q0,ab,rfl,rfl,k,r0⟩:=trodAll_cons s;obtain⟨y,ae,d1,ah,O,q1,rfl,rfl,rfl,n,r1⟩:=trodAll_cons r0;obtain⟨v2,af,d2,ad,A,q2,rfl,rfl,rfl,i,U⟩:=trodAll_cons r1;obtain⟨rfl,rfl,rfl⟩:=trodAll_nil U;obtain rfl:args= #[v0,y,v2]:=by cases args;simp_all
 obtain⟨rfl,rfl⟩:=trodVars_none B;have S:∀x∈E,x.block<W.heap.size:=fun x hx=>by obtain⟨c,b⟩:=k;exact DataW.trod_lt c _ _ _ b x hx
 obtain⟨N,rfl,I⟩:=L6 (d 0 24 v0 rfl rfl) k;have Y:∀x∈O,x.block<W.heap.size:=fun x hx=>by obtain⟨c,b⟩:=n;exact DataW.trod_lt c _ _ _ b x hx
 obtain⟨M,u1,l,D⟩:=IN (d 1 25 y rfl rfl) n;replace l:=l.symm;subst l;have R:∀x∈A,x.block<W.heap.size:=fun x hx=>by obtain⟨c,b⟩:=i;exact DataW.trod_lt c _ _ _ b x hx
 obtain⟨F,J,m,K⟩:=M7 (d 2 48 v2 rfl rfl) i;replace m:=m.symm;subst m;clear u o;simp only[xp]at r;refine(vQ N M u1 F J W I D K (Tm hL)).mono fun e W' ⟨Z,bel⟩=> ?_
 subst Z;exact⟨_,rfl,_,_,_,[],_,[],r,trodAll_mk1 (shut_bool underlying4 _),(trodAll_cons_mk (Below.trod laid (by kernel_rfl) (yo (by kernel_rfl)) k bel S) (trodAll_cons_mk (Below.trod laid (by kernel_rfl) (yo (by kernel_rfl)) n bel Y) (trodAll_cons_mk (Below.trod laid (by kernel_rfl) (yo (by kernel_rfl)) i bel R) trodAll_mk0))),rfl,bel.frame _,fun h=>by cases h⟩
theorem over :Rows.sessionMixedRow.holds Tryz.pinned (OpenSpec.ofChange Rows.sessionMixedSpec):=
 OpenClaim.holds_of_wide 4 f4 rfl rfl rfl rfl rfl rfl rfl ⟨rfl,rfl,rfl,rfl,rfl⟩ rfl rfl rfl rfl rfl (by kernel_rfl) func4 (by kernel_rfl)
  (yo (by kernel_rfl)) (by unfold Func.isWrapper;first|(rw[zl (by decide+kernel)];kernel_rfl)|(rw[zj (by decide+kernel)];exact⟨rfl,rfl⟩))
  (fun os started H enc _=>lifted os started H enc)
theorem proved :Rows.SessionMixedCardSaid:=
 Claim7.holds_tied_plain_at .later [] [.data,.data,.data,.pinned] true (true, "0b334a147d73f5fd8237cb20e93dcc73ec0cd87e900ca6a3e21e8bde8d0d0b12") false over (fun _ h=>by cases h) (by kernel_rfl) (fun _ h=>by cases h) sessionMixed_row_tie rfl ⟨rfl,rfl⟩ (by kernel_rfl) rfl
  (fun f fn d c=>by
   obtain rfl:f=4:=yt ((show prog.funcNamed Rows.sessionMixedRow.func=some 4 by kernel_rfl).symm.trans d)|>.symm;obtain rfl:fn=f4:=(yt (func4.symm.trans c)).symm;exact⟨by kernel_rfl,fun j t b=>by
    rw[params4]at b;have e:t∈ [24,25,48]:=by simpa using Array.mem_of_getElem? b
    have i:([24,25,48].all fun u=> !prog.wantsStandIn u)=true:=by kernel_rfl
    exact(show prog.wantsStandIn t=false by simpa using ZK.1 i t e)⟩)
  (by kernel_rfl)
#print axioms proved
