/- The made policies' states, line by line; how a text is parsed when its lines are. No program is named. | The lines of the made policies, by the reference. No program is named. | The lines of the made policies, by the reference. No program is named. | The lines of the made policies, by the reference. No program is named. | The made policies, parsed by the reference. No program is named. | trcgen2.State returns a valid state. No program is named. | Comparing lists by loops. No program is named. | The views of made states. No program is named. | ProjectSame: what the law computes is true. No program is named. | From a reading of an argument to the words of the walks: structs field by field, slices element by element. No program is named. | Readings of the wiki's types at this translation. Written by types.py. | What lies in memory, seen as values. No program is named. Written by mkencpv.py. | What the rows list of the package's variables, read off the world; lists of integers; the invariant in all later worlds. | ProjectSame in worlds: whatever the views, the lists and the numbers, the law returns true. -/
import Derived.Test.YtphibahplgmgfaaGreatDoorCS25
import Derived.Test.YtphibahplgmgfaaGreatDoorCS27
import Derived.Test.YtphibahplgmgfaaGreatDoorCS12
import Derived.Test.YtphibahplgmgfaaGreatDoorCS26
import Derived.Test.YtphibahplgmgfaaGreatDoorCS11
import Derived.Test.YtphibahplgmgfaaGreatDoorCS01
import Derived.ProofKit
import Derived.OpenShut
import Derived.Deep.Slices
import Derived.Deep.Strs
import Derived.Test.YtphibahplgmgfaaGreatDoorRows
import Derived.Test.YtphibahplgmgfaaGreatDoorCS02
import Derived.Test.YtphibahplgmgfaaGreatDoorCS07
import Derived.Test.YtphibahplgmgfaaGreatDoorCS04
import Derived.MakeChecks
import Derived.FnData
import Derived.ChangeSame
namespace Go.Proofs.YtphibahplgmgfaaGreatDoor
open VL
set_option linter.unusedVariables false
def polS0:Policy:=⟨[],[],[]⟩
def polS1:Policy:=⟨[],[⟨true,1,⟨#[97,108,108]⟩,⟨1,⟨0,⟨#[]⟩⟩⟩⟩],[]⟩
def polS2:Policy:=⟨[],[⟨true,1,⟨#[97,108,108]⟩,⟨1,⟨0,⟨#[]⟩⟩⟩⟩,⟨true,2,⟨#[97,108,108]⟩,⟨1,⟨0,⟨#[]⟩⟩⟩⟩],[]⟩
def polS3:Policy:=⟨[],[⟨true,1,⟨#[97,108,108]⟩,⟨1,⟨0,⟨#[]⟩⟩⟩⟩,⟨true,2,⟨#[97,108,108]⟩,⟨1,⟨0,⟨#[]⟩⟩⟩⟩,⟨true,3,⟨#[97,108,108]⟩,⟨1,⟨0,⟨#[]⟩⟩⟩⟩],[]⟩
def polS4:Policy:=⟨[],[⟨true,1,⟨#[97,108,108]⟩,⟨1,⟨0,⟨#[]⟩⟩⟩⟩,⟨true,2,⟨#[97,108,108]⟩,⟨1,⟨0,⟨#[]⟩⟩⟩⟩,⟨true,3,⟨#[97,108,108]⟩,⟨1,⟨0,⟨#[]⟩⟩⟩⟩,⟨true,4,⟨#[97,108,108]⟩,⟨1,⟨0,⟨#[]⟩⟩⟩⟩],[]⟩
def polS5:Policy:=⟨[],[⟨true,1,⟨#[97,108,108]⟩,⟨1,⟨0,⟨#[]⟩⟩⟩⟩,⟨true,2,⟨#[97,108,108]⟩,⟨1,⟨0,⟨#[]⟩⟩⟩⟩,⟨true,3,⟨#[97,108,108]⟩,⟨1,⟨0,⟨#[]⟩⟩⟩⟩,⟨true,4,⟨#[97,108,108]⟩,⟨1,⟨0,⟨#[]⟩⟩⟩⟩,⟨true,5,⟨#[97,108,108]⟩,⟨1,⟨0,⟨#[]⟩⟩⟩⟩],[]⟩
def polS6:Policy:=⟨[⟨⟨#[115,116,97,102,102]⟩,[⟨#[97,110,110]⟩]⟩],[⟨true,1,⟨#[97,108,108]⟩,⟨1,⟨0,⟨#[]⟩⟩⟩⟩,⟨true,2,⟨#[97,108,108]⟩,⟨1,⟨0,⟨#[]⟩⟩⟩⟩,⟨true,3,⟨#[97,108,108]⟩,⟨1,⟨0,⟨#[]⟩⟩⟩⟩,⟨true,4,⟨#[97,108,108]⟩,⟨1,⟨0,⟨#[]⟩⟩⟩⟩,⟨true,5,⟨#[97,108,108]⟩,⟨1,⟨0,⟨#[]⟩⟩⟩⟩],[]⟩
def polS7:Policy:=⟨[⟨⟨#[115,116,97,102,102]⟩,[⟨#[97,110,110]⟩]⟩],[⟨true,1,⟨#[97,108,108]⟩,⟨1,⟨0,⟨#[]⟩⟩⟩⟩,⟨true,2,⟨#[97,108,108]⟩,⟨1,⟨0,⟨#[]⟩⟩⟩⟩,⟨true,3,⟨#[97,108,108]⟩,⟨1,⟨0,⟨#[]⟩⟩⟩⟩,⟨true,4,⟨#[97,108,108]⟩,⟨1,⟨0,⟨#[]⟩⟩⟩⟩,⟨true,5,⟨#[97,108,108]⟩,⟨1,⟨0,⟨#[]⟩⟩⟩⟩,⟨false,1,⟨#[97,108,108]⟩,⟨3,⟨0,⟨#[65]⟩⟩⟩⟩],[]⟩
def polS8:Policy:=⟨[⟨⟨#[115,116,97,102,102]⟩,[⟨#[97,110,110]⟩]⟩],[⟨true,1,⟨#[97,108,108]⟩,⟨1,⟨0,⟨#[]⟩⟩⟩⟩,⟨true,2,⟨#[97,108,108]⟩,⟨1,⟨0,⟨#[]⟩⟩⟩⟩,⟨true,3,⟨#[97,108,108]⟩,⟨1,⟨0,⟨#[]⟩⟩⟩⟩,⟨true,4,⟨#[97,108,108]⟩,⟨1,⟨0,⟨#[]⟩⟩⟩⟩,⟨true,5,⟨#[97,108,108]⟩,⟨1,⟨0,⟨#[]⟩⟩⟩⟩,⟨false,1,⟨#[97,108,108]⟩,⟨3,⟨0,⟨#[65]⟩⟩⟩⟩,⟨true,1,⟨#[115,116,97,102,102]⟩,⟨3,⟨0,⟨#[65,47,67]⟩⟩⟩⟩],[]⟩
def polS9:Policy:=⟨[⟨⟨#[115,116,97,102,102]⟩,[⟨#[97,110,110]⟩]⟩],[⟨true,1,⟨#[97,108,108]⟩,⟨1,⟨0,⟨#[]⟩⟩⟩⟩,⟨true,2,⟨#[97,108,108]⟩,⟨1,⟨0,⟨#[]⟩⟩⟩⟩,⟨true,3,⟨#[97,108,108]⟩,⟨1,⟨0,⟨#[]⟩⟩⟩⟩,⟨true,4,⟨#[97,108,108]⟩,⟨1,⟨0,⟨#[]⟩⟩⟩⟩,⟨true,5,⟨#[97,108,108]⟩,⟨1,⟨0,⟨#[]⟩⟩⟩⟩],[⟨false,⟨#[115,116,97,102,102]⟩,⟨0,⟨#[65]⟩⟩,⟨#[83]⟩⟩]⟩
def polS10:Policy:=⟨[⟨⟨#[115,116,97,102,102]⟩,[⟨#[97,110,110]⟩]⟩],[⟨true,1,⟨#[97,108,108]⟩,⟨1,⟨0,⟨#[]⟩⟩⟩⟩,⟨true,2,⟨#[97,108,108]⟩,⟨1,⟨0,⟨#[]⟩⟩⟩⟩,⟨true,3,⟨#[97,108,108]⟩,⟨1,⟨0,⟨#[]⟩⟩⟩⟩,⟨true,4,⟨#[97,108,108]⟩,⟨1,⟨0,⟨#[]⟩⟩⟩⟩,⟨true,5,⟨#[97,108,108]⟩,⟨1,⟨0,⟨#[]⟩⟩⟩⟩],[⟨false,⟨#[115,116,97,102,102]⟩,⟨0,⟨#[65]⟩⟩,⟨#[83]⟩⟩,⟨true,⟨#[115,116,97,102,102]⟩,⟨3,⟨#[84]⟩⟩,⟨#[]⟩⟩]⟩
def polS11:Policy:=⟨[⟨⟨#[115,116,97,102,102]⟩,[⟨#[97,110,110]⟩]⟩],[⟨true,1,⟨#[97,108,108]⟩,⟨1,⟨0,⟨#[]⟩⟩⟩⟩,⟨true,2,⟨#[97,108,108]⟩,⟨1,⟨0,⟨#[]⟩⟩⟩⟩,⟨true,3,⟨#[97,108,108]⟩,⟨1,⟨0,⟨#[]⟩⟩⟩⟩,⟨true,4,⟨#[97,108,108]⟩,⟨1,⟨0,⟨#[]⟩⟩⟩⟩,⟨true,5,⟨#[97,108,108]⟩,⟨1,⟨0,⟨#[]⟩⟩⟩⟩],[⟨false,⟨#[115,116,97,102,102]⟩,⟨0,⟨#[65]⟩⟩,⟨#[83]⟩⟩,⟨true,⟨#[115,116,97,102,102]⟩,⟨3,⟨#[84]⟩⟩,⟨#[]⟩⟩,⟨false,⟨#[115,116,97,102,102]⟩,⟨0,⟨#[66]⟩⟩,⟨#[]⟩⟩]⟩
def polS12:Policy:=⟨[⟨⟨#[115,116,97,102,102]⟩,[⟨#[97,110,110]⟩,⟨#[64,109,111,114,101]⟩]⟩],[],[]⟩
def polS13:Policy:=⟨[⟨⟨#[115,116,97,102,102]⟩,[⟨#[97,110,110]⟩,⟨#[64,109,111,114,101]⟩]⟩,⟨⟨#[109,111,114,101]⟩,[⟨#[98,111,98]⟩]⟩],[],[]⟩
def polS14:Policy:=⟨[⟨⟨#[115,116,97,102,102]⟩,[⟨#[97,110,110]⟩,⟨#[64,109,111,114,101]⟩]⟩,⟨⟨#[109,111,114,101]⟩,[⟨#[98,111,98]⟩]⟩],[⟨true,1,⟨#[97,108,108]⟩,⟨2,⟨0,⟨#[]⟩⟩⟩⟩],[]⟩
def polS15:Policy:=⟨[⟨⟨#[115,116,97,102,102]⟩,[⟨#[97,110,110]⟩,⟨#[64,109,111,114,101]⟩]⟩,⟨⟨#[109,111,114,101]⟩,[⟨#[98,111,98]⟩]⟩],[⟨true,1,⟨#[97,108,108]⟩,⟨2,⟨0,⟨#[]⟩⟩⟩⟩,⟨true,1,⟨#[97,108,108]⟩,⟨2,⟨3,⟨#[]⟩⟩⟩⟩],[]⟩
def polS16:Policy:=⟨[⟨⟨#[115,116,97,102,102]⟩,[⟨#[97,110,110]⟩,⟨#[64,109,111,114,101]⟩]⟩,⟨⟨#[109,111,114,101]⟩,[⟨#[98,111,98]⟩]⟩],[⟨true,1,⟨#[97,108,108]⟩,⟨2,⟨0,⟨#[]⟩⟩⟩⟩,⟨true,1,⟨#[97,108,108]⟩,⟨2,⟨3,⟨#[]⟩⟩⟩⟩,⟨true,1,⟨#[97,108,108]⟩,⟨2,⟨4,⟨#[]⟩⟩⟩⟩],[]⟩
def polS17:Policy:=⟨[⟨⟨#[115,116,97,102,102]⟩,[⟨#[97,110,110]⟩,⟨#[64,109,111,114,101]⟩]⟩,⟨⟨#[109,111,114,101]⟩,[⟨#[98,111,98]⟩]⟩],[⟨true,1,⟨#[97,108,108]⟩,⟨2,⟨0,⟨#[]⟩⟩⟩⟩,⟨true,1,⟨#[97,108,108]⟩,⟨2,⟨3,⟨#[]⟩⟩⟩⟩,⟨true,1,⟨#[97,108,108]⟩,⟨2,⟨4,⟨#[]⟩⟩⟩⟩,⟨true,2,⟨#[117,115,101,114,115]⟩,⟨2,⟨0,⟨#[]⟩⟩⟩⟩],[]⟩
def polS18:Policy:=⟨[⟨⟨#[115,116,97,102,102]⟩,[⟨#[97,110,110]⟩,⟨#[64,109,111,114,101]⟩]⟩,⟨⟨#[109,111,114,101]⟩,[⟨#[98,111,98]⟩]⟩],[⟨true,1,⟨#[97,108,108]⟩,⟨2,⟨0,⟨#[]⟩⟩⟩⟩,⟨true,1,⟨#[97,108,108]⟩,⟨2,⟨3,⟨#[]⟩⟩⟩⟩,⟨true,1,⟨#[97,108,108]⟩,⟨2,⟨4,⟨#[]⟩⟩⟩⟩,⟨true,2,⟨#[117,115,101,114,115]⟩,⟨2,⟨0,⟨#[]⟩⟩⟩⟩,⟨true,2,⟨#[115,116,97,102,102]⟩,⟨2,⟨4,⟨#[]⟩⟩⟩⟩],[]⟩
def polS19:Policy:=⟨[⟨⟨#[115,116,97,102,102]⟩,[⟨#[97,110,110]⟩,⟨#[64,109,111,114,101]⟩]⟩,⟨⟨#[109,111,114,101]⟩,[⟨#[98,111,98]⟩]⟩],[⟨true,1,⟨#[97,108,108]⟩,⟨2,⟨0,⟨#[]⟩⟩⟩⟩,⟨true,1,⟨#[97,108,108]⟩,⟨2,⟨3,⟨#[]⟩⟩⟩⟩,⟨true,1,⟨#[97,108,108]⟩,⟨2,⟨4,⟨#[]⟩⟩⟩⟩,⟨true,2,⟨#[117,115,101,114,115]⟩,⟨2,⟨0,⟨#[]⟩⟩⟩⟩,⟨true,2,⟨#[115,116,97,102,102]⟩,⟨2,⟨4,⟨#[]⟩⟩⟩⟩,⟨true,5,⟨#[115,116,97,102,102]⟩,⟨1,⟨0,⟨#[]⟩⟩⟩⟩],[]⟩
def polS20:Policy:=⟨[⟨⟨#[115,116,97,102,102]⟩,[⟨#[97,110,110]⟩,⟨#[64,109,111,114,101]⟩]⟩,⟨⟨#[109,111,114,101]⟩,[⟨#[98,111,98]⟩]⟩],[⟨true,1,⟨#[97,108,108]⟩,⟨2,⟨0,⟨#[]⟩⟩⟩⟩,⟨true,1,⟨#[97,108,108]⟩,⟨2,⟨3,⟨#[]⟩⟩⟩⟩,⟨true,1,⟨#[97,108,108]⟩,⟨2,⟨4,⟨#[]⟩⟩⟩⟩,⟨true,2,⟨#[117,115,101,114,115]⟩,⟨2,⟨0,⟨#[]⟩⟩⟩⟩,⟨true,2,⟨#[115,116,97,102,102]⟩,⟨2,⟨4,⟨#[]⟩⟩⟩⟩,⟨true,5,⟨#[115,116,97,102,102]⟩,⟨1,⟨0,⟨#[]⟩⟩⟩⟩,⟨true,3,⟨#[115,116,97,102,102]⟩,⟨1,⟨0,⟨#[]⟩⟩⟩⟩],[]⟩
def polS21:Policy:=⟨[⟨⟨#[115,116,97,102,102]⟩,[⟨#[97,110,110]⟩,⟨#[64,109,111,114,101]⟩]⟩,⟨⟨#[109,111,114,101]⟩,[⟨#[98,111,98]⟩]⟩],[⟨true,1,⟨#[97,108,108]⟩,⟨2,⟨0,⟨#[]⟩⟩⟩⟩,⟨true,1,⟨#[97,108,108]⟩,⟨2,⟨3,⟨#[]⟩⟩⟩⟩,⟨true,1,⟨#[97,108,108]⟩,⟨2,⟨4,⟨#[]⟩⟩⟩⟩,⟨true,2,⟨#[117,115,101,114,115]⟩,⟨2,⟨0,⟨#[]⟩⟩⟩⟩,⟨true,2,⟨#[115,116,97,102,102]⟩,⟨2,⟨4,⟨#[]⟩⟩⟩⟩,⟨true,5,⟨#[115,116,97,102,102]⟩,⟨1,⟨0,⟨#[]⟩⟩⟩⟩,⟨true,3,⟨#[115,116,97,102,102]⟩,⟨1,⟨0,⟨#[]⟩⟩⟩⟩,⟨true,4,⟨#[115,116,97,102,102]⟩,⟨1,⟨0,⟨#[]⟩⟩⟩⟩],[]⟩
def polS22:Policy:=⟨[⟨⟨#[115,116,97,102,102]⟩,[⟨#[97,110,110]⟩,⟨#[64,109,111,114,101]⟩]⟩,⟨⟨#[109,111,114,101]⟩,[⟨#[98,111,98]⟩]⟩],[⟨true,1,⟨#[97,108,108]⟩,⟨2,⟨0,⟨#[]⟩⟩⟩⟩,⟨true,1,⟨#[97,108,108]⟩,⟨2,⟨3,⟨#[]⟩⟩⟩⟩,⟨true,1,⟨#[97,108,108]⟩,⟨2,⟨4,⟨#[]⟩⟩⟩⟩,⟨true,2,⟨#[117,115,101,114,115]⟩,⟨2,⟨0,⟨#[]⟩⟩⟩⟩,⟨true,2,⟨#[115,116,97,102,102]⟩,⟨2,⟨4,⟨#[]⟩⟩⟩⟩,⟨true,5,⟨#[115,116,97,102,102]⟩,⟨1,⟨0,⟨#[]⟩⟩⟩⟩,⟨true,3,⟨#[115,116,97,102,102]⟩,⟨1,⟨0,⟨#[]⟩⟩⟩⟩,⟨true,4,⟨#[115,116,97,102,102]⟩,⟨1,⟨0,⟨#[]⟩⟩⟩⟩,⟨true,1,⟨#[115,116,97,102,102]⟩,⟨1,⟨0,⟨#[]⟩⟩⟩⟩],[]⟩
def polS23:Policy:=⟨[⟨⟨#[115,116,97,102,102]⟩,[⟨#[97,110,110]⟩,⟨#[64,109,111,114,101]⟩]⟩,⟨⟨#[109,111,114,101]⟩,[⟨#[98,111,98]⟩]⟩],[⟨true,1,⟨#[97,108,108]⟩,⟨2,⟨0,⟨#[]⟩⟩⟩⟩,⟨true,1,⟨#[97,108,108]⟩,⟨2,⟨3,⟨#[]⟩⟩⟩⟩,⟨true,1,⟨#[97,108,108]⟩,⟨2,⟨4,⟨#[]⟩⟩⟩⟩,⟨true,2,⟨#[117,115,101,114,115]⟩,⟨2,⟨0,⟨#[]⟩⟩⟩⟩,⟨true,2,⟨#[115,116,97,102,102]⟩,⟨2,⟨4,⟨#[]⟩⟩⟩⟩,⟨true,5,⟨#[115,116,97,102,102]⟩,⟨1,⟨0,⟨#[]⟩⟩⟩⟩,⟨true,3,⟨#[115,116,97,102,102]⟩,⟨1,⟨0,⟨#[]⟩⟩⟩⟩,⟨true,4,⟨#[115,116,97,102,102]⟩,⟨1,⟨0,⟨#[]⟩⟩⟩⟩,⟨true,1,⟨#[115,116,97,102,102]⟩,⟨1,⟨0,⟨#[]⟩⟩⟩⟩,⟨true,2,⟨#[115,116,97,102,102]⟩,⟨1,⟨0,⟨#[]⟩⟩⟩⟩],[]⟩
def polS24:Policy:=⟨[],[⟨true,1,⟨#[97,108,108]⟩,⟨1,⟨0,⟨#[]⟩⟩⟩⟩,⟨true,2,⟨#[97,108,108]⟩,⟨1,⟨0,⟨#[]⟩⟩⟩⟩,⟨true,3,⟨#[97,108,108]⟩,⟨1,⟨0,⟨#[]⟩⟩⟩⟩,⟨true,4,⟨#[97,108,108]⟩,⟨1,⟨0,⟨#[]⟩⟩⟩⟩,⟨true,5,⟨#[97,108,108]⟩,⟨1,⟨0,⟨#[]⟩⟩⟩⟩,⟨false,1,⟨#[97,108,108]⟩,⟨3,⟨0,⟨#[66]⟩⟩⟩⟩],[]⟩
def polS25:Policy:=⟨[],[⟨true,1,⟨#[97,108,108]⟩,⟨1,⟨0,⟨#[]⟩⟩⟩⟩,⟨true,2,⟨#[97,108,108]⟩,⟨1,⟨0,⟨#[]⟩⟩⟩⟩,⟨true,3,⟨#[97,108,108]⟩,⟨1,⟨0,⟨#[]⟩⟩⟩⟩,⟨true,4,⟨#[97,108,108]⟩,⟨1,⟨0,⟨#[]⟩⟩⟩⟩,⟨true,5,⟨#[97,108,108]⟩,⟨1,⟨0,⟨#[]⟩⟩⟩⟩,⟨false,1,⟨#[97,108,108]⟩,⟨3,⟨0,⟨#[66]⟩⟩⟩⟩,⟨false,1,⟨#[97,108,108]⟩,⟨3,⟨4,⟨#[89]⟩⟩⟩⟩],[]⟩
def polS26:Policy:=⟨[],[⟨true,1,⟨#[97,108,108]⟩,⟨1,⟨0,⟨#[]⟩⟩⟩⟩,⟨true,2,⟨#[97,108,108]⟩,⟨1,⟨0,⟨#[]⟩⟩⟩⟩,⟨true,3,⟨#[97,108,108]⟩,⟨1,⟨0,⟨#[]⟩⟩⟩⟩,⟨true,4,⟨#[97,108,108]⟩,⟨1,⟨0,⟨#[]⟩⟩⟩⟩,⟨true,5,⟨#[97,108,108]⟩,⟨1,⟨0,⟨#[]⟩⟩⟩⟩,⟨false,2,⟨#[97,108,108]⟩,⟨3,⟨0,⟨#[66]⟩⟩⟩⟩],[]⟩
def polS27:Policy:=⟨[],[⟨true,1,⟨#[97,108,108]⟩,⟨1,⟨0,⟨#[]⟩⟩⟩⟩,⟨true,2,⟨#[97,108,108]⟩,⟨1,⟨0,⟨#[]⟩⟩⟩⟩,⟨true,3,⟨#[97,108,108]⟩,⟨1,⟨0,⟨#[]⟩⟩⟩⟩,⟨true,4,⟨#[97,108,108]⟩,⟨1,⟨0,⟨#[]⟩⟩⟩⟩,⟨true,5,⟨#[97,108,108]⟩,⟨1,⟨0,⟨#[]⟩⟩⟩⟩,⟨false,2,⟨#[97,108,108]⟩,⟨3,⟨0,⟨#[66]⟩⟩⟩⟩,⟨false,1,⟨#[117,115,101,114,115]⟩,⟨3,⟨0,⟨#[68]⟩⟩⟩⟩],[]⟩
def polS28:Policy:=⟨[⟨⟨#[115,116,97,102,102]⟩,[⟨#[97,110,110]⟩]⟩],[⟨true,1,⟨#[97,108,108]⟩,⟨1,⟨0,⟨#[]⟩⟩⟩⟩,⟨true,2,⟨#[97,108,108]⟩,⟨1,⟨0,⟨#[]⟩⟩⟩⟩,⟨true,3,⟨#[97,108,108]⟩,⟨1,⟨0,⟨#[]⟩⟩⟩⟩,⟨true,4,⟨#[97,108,108]⟩,⟨1,⟨0,⟨#[]⟩⟩⟩⟩,⟨true,5,⟨#[97,108,108]⟩,⟨1,⟨0,⟨#[]⟩⟩⟩⟩,⟨false,5,⟨#[97,108,108]⟩,⟨1,⟨0,⟨#[]⟩⟩⟩⟩],[]⟩
def polS29:Policy:=⟨[⟨⟨#[115,116,97,102,102]⟩,[⟨#[97,110,110]⟩]⟩],[⟨true,1,⟨#[97,108,108]⟩,⟨1,⟨0,⟨#[]⟩⟩⟩⟩,⟨true,2,⟨#[97,108,108]⟩,⟨1,⟨0,⟨#[]⟩⟩⟩⟩,⟨true,3,⟨#[97,108,108]⟩,⟨1,⟨0,⟨#[]⟩⟩⟩⟩,⟨true,4,⟨#[97,108,108]⟩,⟨1,⟨0,⟨#[]⟩⟩⟩⟩,⟨true,5,⟨#[97,108,108]⟩,⟨1,⟨0,⟨#[]⟩⟩⟩⟩,⟨false,5,⟨#[97,108,108]⟩,⟨1,⟨0,⟨#[]⟩⟩⟩⟩,⟨true,5,⟨#[115,116,97,102,102]⟩,⟨2,⟨0,⟨#[]⟩⟩⟩⟩],[]⟩
def polS30:Policy:=⟨[⟨⟨#[115,116,97,102,102]⟩,[⟨#[97,110,110]⟩]⟩],[⟨true,1,⟨#[97,108,108]⟩,⟨1,⟨0,⟨#[]⟩⟩⟩⟩,⟨true,2,⟨#[97,108,108]⟩,⟨1,⟨0,⟨#[]⟩⟩⟩⟩,⟨true,3,⟨#[97,108,108]⟩,⟨1,⟨0,⟨#[]⟩⟩⟩⟩,⟨true,4,⟨#[97,108,108]⟩,⟨1,⟨0,⟨#[]⟩⟩⟩⟩,⟨true,5,⟨#[97,108,108]⟩,⟨1,⟨0,⟨#[]⟩⟩⟩⟩,⟨false,5,⟨#[97,108,108]⟩,⟨1,⟨0,⟨#[]⟩⟩⟩⟩,⟨true,5,⟨#[115,116,97,102,102]⟩,⟨2,⟨0,⟨#[]⟩⟩⟩⟩],[⟨false,⟨#[115,116,97,102,102]⟩,⟨0,⟨#[65]⟩⟩,⟨#[]⟩⟩]⟩
def polS31:Policy:=⟨[⟨⟨#[115,116,97,102,102]⟩,[⟨#[97,110,110]⟩]⟩],[⟨true,1,⟨#[97,108,108]⟩,⟨1,⟨0,⟨#[]⟩⟩⟩⟩,⟨true,2,⟨#[97,108,108]⟩,⟨1,⟨0,⟨#[]⟩⟩⟩⟩,⟨true,3,⟨#[97,108,108]⟩,⟨1,⟨0,⟨#[]⟩⟩⟩⟩,⟨true,4,⟨#[97,108,108]⟩,⟨1,⟨0,⟨#[]⟩⟩⟩⟩,⟨true,5,⟨#[97,108,108]⟩,⟨1,⟨0,⟨#[]⟩⟩⟩⟩,⟨false,5,⟨#[97,108,108]⟩,⟨1,⟨0,⟨#[]⟩⟩⟩⟩,⟨true,5,⟨#[115,116,97,102,102]⟩,⟨2,⟨0,⟨#[]⟩⟩⟩⟩],[⟨false,⟨#[115,116,97,102,102]⟩,⟨0,⟨#[65]⟩⟩,⟨#[]⟩⟩,⟨false,⟨#[115,116,97,102,102]⟩,⟨0,⟨#[68]⟩⟩,⟨#[]⟩⟩]⟩
inductive StmR:Policy→List ByteArray→Policy→Prop
 | nil {p:Policy}:StmR p [] p
 | cons {p q r:Policy} {l:ByteArray} {ls:List ByteArray} (h:r12_statement p l=some (q,true)) (k:StmR q ls r):StmR p (l::ls) r
theorem parse_of {s:ByteArray} {lines:List ByteArray} {p:Policy} (hs:decide ((8192:Int)<(s.size:Int))=false) (hL:r12_Lines s=some lines) (hn:decide (lines.length≤1000)=true) (h:StmR ⟨[],[],[]⟩ lines p) (hv:r12_Validate p=some 0):r12_Parse s=some (p,0,0):=by
 have hn':lines.length≤1000:=of_decide_eq_true hn
 refine tot_eq ?_
 unfold r12_Parse
 refine tot_ifF hs ?_
 refine tot_bindE hL ?_
 refine tot_loop (fun a:Int×List Group×List Rule×List Guard=>∃ n:Nat,a.1=n∧n≤lines.length∧StmR ⟨a.2.1,a.2.2.1,a.2.2.2⟩ (lines.drop n) p) (fun a=>((lines.length:Int) - a.1).toNat) ⟨0,rfl,Nat.zero_le _,h⟩ (by first | omega | (dsimp only;omega)) ?_
 rintro ⟨i,gs,rs,us⟩ rec ⟨n,hi,hn2,hst⟩ ih
 dsimp only at hi hst
 subst hi
 refine tot_ifD (fun hlt=>?_) fun hlt=>?_
 ·refine tot_atI (by omega) hlt fun e _ hg=>?_
  rw [Int.toNat_natCast] at hg
  rw [drop_cons hg] at hst
  cases hst with
  | cons h1 h2=>
    refine tot_bindE h1 ?_
    refine tot_ifF rfl ?_
    rw [w64_of (by omega) (by omega)]
    exact ih _ ⟨n+1,by dsimp only;omega,by omega,h2⟩ (by first | omega | (dsimp only;omega))
 ·rw [List.drop_of_length_le (by omega)] at hst
  cases hst
  refine tot_bindE hv ?_
  exact tot_ifF rfl (tot_some rfl)
end Go.Proofs.YtphibahplgmgfaaGreatDoor
namespace Go.Proofs.YtphibahplgmgfaaGreatDoor
set_option maxRecDepth 100000 in
theorem refL0:r12_statement polS0 ⟨#[97,108,108,111,119,32,114,101,97,100,32,97,108,108,32,60,97,108,108,62]⟩=some (polS1,true):=by kernel_rfl
set_option maxRecDepth 100000 in
theorem refL3:r12_statement polS3 ⟨#[97,108,108,111,119,32,100,101,108,101,116,101,32,97,108,108,32,60,97,108,108,62]⟩=some (polS4,true):=by kernel_rfl
set_option maxRecDepth 100000 in
theorem refL6:r12_statement polS5 ⟨#[103,114,111,117,112,32,115,116,97,102,102,32,97,110,110]⟩=some (polS6,true):=by kernel_rfl
set_option maxRecDepth 100000 in
theorem refL9:r12_statement polS8 ⟨#[]⟩=some (polS8,true):=by kernel_rfl
set_option maxRecDepth 100000 in
theorem refL12:r12_statement polS10 ⟨#[103,117,97,114,100,32,115,116,97,102,102,32,66]⟩=some (polS11,true):=by kernel_rfl
set_option maxRecDepth 100000 in
theorem refL15:r12_statement polS12 ⟨#[103,114,111,117,112,32,109,111,114,101,32,98,111,98]⟩=some (polS13,true):=by kernel_rfl
set_option maxRecDepth 100000 in
theorem refL18:r12_statement polS15 ⟨#[97,108,108,111,119,32,114,101,97,100,32,97,108,108,32,60,67,97,116,101,103,111,114,121,62]⟩=some (polS16,true):=by kernel_rfl
set_option maxRecDepth 100000 in
theorem refL21:r12_statement polS18 ⟨#[97,108,108,111,119,32,114,101,118,105,101,119,32,115,116,97,102,102,32,60,97,108,108,62]⟩=some (polS19,true):=by kernel_rfl
set_option maxRecDepth 100000 in
theorem refL24:r12_statement polS21 ⟨#[97,108,108,111,119,32,114,101,97,100,32,115,116,97,102,102,32,60,97,108,108,62]⟩=some (polS22,true):=by kernel_rfl
set_option maxRecDepth 100000 in
theorem refL27:r12_statement polS5 ⟨#[100,101,110,121,32,114,101,97,100,32,97,108,108,32,66]⟩=some (polS24,true):=by kernel_rfl
set_option maxRecDepth 100000 in
theorem refL30:r12_statement polS5 ⟨#[100,101,110,121,32,101,100,105,116,32,97,108,108,32,66]⟩=some (polS26,true):=by kernel_rfl
set_option maxRecDepth 100000 in
theorem refL33:r12_statement polS6 ⟨#[100,101,110,121,32,114,101,118,105,101,119,32,97,108,108,32,60,97,108,108,62]⟩=some (polS28,true):=by kernel_rfl
set_option maxRecDepth 100000 in
theorem refL36:r12_statement polS30 ⟨#[103,117,97,114,100,32,115,116,97,102,102,32,68]⟩=some (polS31,true):=by kernel_rfl
end Go.Proofs.YtphibahplgmgfaaGreatDoor
namespace Go.Proofs.YtphibahplgmgfaaGreatDoor
set_option maxRecDepth 100000 in
theorem refL1:r12_statement polS1 ⟨#[97,108,108,111,119,32,101,100,105,116,32,97,108,108,32,60,97,108,108,62]⟩=some (polS2,true):=by kernel_rfl
set_option maxRecDepth 100000 in
theorem refL4:r12_statement polS4 ⟨#[97,108,108,111,119,32,114,101,118,105,101,119,32,97,108,108,32,60,97,108,108,62]⟩=some (polS5,true):=by kernel_rfl
set_option maxRecDepth 100000 in
theorem refL7:r12_statement polS6 ⟨#[100,101,110,121,32,114,101,97,100,32,97,108,108,32,65]⟩=some (polS7,true):=by kernel_rfl
set_option maxRecDepth 100000 in
theorem refL10:r12_statement polS6 ⟨#[103,117,97,114,100,32,115,116,97,102,102,32,65,32,124,32,83]⟩=some (polS9,true):=by kernel_rfl
set_option maxRecDepth 100000 in
theorem refL13:r12_statement polS11 ⟨#[]⟩=some (polS11,true):=by kernel_rfl
set_option maxRecDepth 100000 in
theorem refL16:r12_statement polS13 ⟨#[97,108,108,111,119,32,114,101,97,100,32,97,108,108,32,60,77,97,105,110,62]⟩=some (polS14,true):=by kernel_rfl
set_option maxRecDepth 100000 in
theorem refL19:r12_statement polS16 ⟨#[97,108,108,111,119,32,101,100,105,116,32,117,115,101,114,115,32,60,77,97,105,110,62]⟩=some (polS17,true):=by kernel_rfl
set_option maxRecDepth 100000 in
theorem refL22:r12_statement polS19 ⟨#[97,108,108,111,119,32,109,111,118,101,32,115,116,97,102,102,32,60,97,108,108,62]⟩=some (polS20,true):=by kernel_rfl
set_option maxRecDepth 100000 in
theorem refL25:r12_statement polS22 ⟨#[97,108,108,111,119,32,101,100,105,116,32,115,116,97,102,102,32,60,97,108,108,62]⟩=some (polS23,true):=by kernel_rfl
set_option maxRecDepth 100000 in
theorem refL28:r12_statement polS24 ⟨#[100,101,110,121,32,114,101,97,100,32,97,108,108,32,67,97,116,101,103,111,114,121,58,89]⟩=some (polS25,true):=by kernel_rfl
set_option maxRecDepth 100000 in
theorem refL31:r12_statement polS26 ⟨#[100,101,110,121,32,114,101,97,100,32,117,115,101,114,115,32,68]⟩=some (polS27,true):=by kernel_rfl
set_option maxRecDepth 100000 in
theorem refL34:r12_statement polS28 ⟨#[97,108,108,111,119,32,114,101,118,105,101,119,32,115,116,97,102,102,32,60,77,97,105,110,62]⟩=some (polS29,true):=by kernel_rfl
set_option maxRecDepth 100000 in
theorem refL37:r12_statement polS31 ⟨#[]⟩=some (polS31,true):=by kernel_rfl
end Go.Proofs.YtphibahplgmgfaaGreatDoor
namespace Go.Proofs.YtphibahplgmgfaaGreatDoor
set_option maxRecDepth 100000 in
theorem refL2:r12_statement polS2 ⟨#[97,108,108,111,119,32,109,111,118,101,32,97,108,108,32,60,97,108,108,62]⟩=some (polS3,true):=by kernel_rfl
set_option maxRecDepth 100000 in
theorem refL5:r12_statement polS5 ⟨#[]⟩=some (polS5,true):=by kernel_rfl
set_option maxRecDepth 100000 in
theorem refL8:r12_statement polS7 ⟨#[97,108,108,111,119,32,114,101,97,100,32,115,116,97,102,102,32,65,47,67]⟩=some (polS8,true):=by kernel_rfl
set_option maxRecDepth 100000 in
theorem refL11:r12_statement polS9 ⟨#[115,116,114,105,99,116,32,115,116,97,102,102,32,84,101,109,112,108,97,116,101,58,84]⟩=some (polS10,true):=by kernel_rfl
set_option maxRecDepth 100000 in
theorem refL14:r12_statement polS0 ⟨#[103,114,111,117,112,32,115,116,97,102,102,32,97,110,110,32,64,109,111,114,101]⟩=some (polS12,true):=by kernel_rfl
set_option maxRecDepth 100000 in
theorem refL17:r12_statement polS14 ⟨#[97,108,108,111,119,32,114,101,97,100,32,97,108,108,32,60,84,101,109,112,108,97,116,101,62]⟩=some (polS15,true):=by kernel_rfl
set_option maxRecDepth 100000 in
theorem refL20:r12_statement polS17 ⟨#[97,108,108,111,119,32,101,100,105,116,32,115,116,97,102,102,32,60,67,97,116,101,103,111,114,121,62]⟩=some (polS18,true):=by kernel_rfl
set_option maxRecDepth 100000 in
theorem refL23:r12_statement polS20 ⟨#[97,108,108,111,119,32,100,101,108,101,116,101,32,115,116,97,102,102,32,60,97,108,108,62]⟩=some (polS21,true):=by kernel_rfl
set_option maxRecDepth 100000 in
theorem refL26:r12_statement polS23 ⟨#[]⟩=some (polS23,true):=by kernel_rfl
set_option maxRecDepth 100000 in
theorem refL29:r12_statement polS25 ⟨#[]⟩=some (polS25,true):=by kernel_rfl
set_option maxRecDepth 100000 in
theorem refL32:r12_statement polS27 ⟨#[]⟩=some (polS27,true):=by kernel_rfl
set_option maxRecDepth 100000 in
theorem refL35:r12_statement polS29 ⟨#[103,117,97,114,100,32,115,116,97,102,102,32,65]⟩=some (polS30,true):=by kernel_rfl
end Go.Proofs.YtphibahplgmgfaaGreatDoor
namespace Go.Proofs.YtphibahplgmgfaaGreatDoor
set_option maxRecDepth 100000 in
theorem refPol0:r12_Parse ⟨#[97,108,108,111,119,32,114,101,97,100,32,97,108,108,32,60,97,108,108,62,10,97,108,108,111,119,32,101,100,105,116,32,97,108,108,32,60,97,108,108,62,10,97,108,108,111,119,32,109,111,118,101,32,97,108,108,32,60,97,108,108,62,10,97,108,108,111,119,32,100,101,108,101,116,101,32,97,108,108,32,60,97,108,108,62,10,97,108,108,111,119,32,114,101,118,105,101,119,32,97,108,108,32,60,97,108,108,62,10]⟩=some (polS5,0,0):=parse_of (lines:=[⟨#[97,108,108,111,119,32,114,101,97,100,32,97,108,108,32,60,97,108,108,62]⟩,⟨#[97,108,108,111,119,32,101,100,105,116,32,97,108,108,32,60,97,108,108,62]⟩,⟨#[97,108,108,111,119,32,109,111,118,101,32,97,108,108,32,60,97,108,108,62]⟩,⟨#[97,108,108,111,119,32,100,101,108,101,116,101,32,97,108,108,32,60,97,108,108,62]⟩,⟨#[97,108,108,111,119,32,114,101,118,105,101,119,32,97,108,108,32,60,97,108,108,62]⟩,⟨#[]⟩]) (by kernel_rfl) (by kernel_rfl) (by kernel_rfl) (.cons refL0 (.cons refL1 (.cons refL2 (.cons refL3 (.cons refL4 (.cons refL5 .nil)))))) (by kernel_rfl)
set_option maxRecDepth 100000 in
theorem refPol1:r12_Parse ⟨#[97,108,108,111,119,32,114,101,97,100,32,97,108,108,32,60,97,108,108,62,10,97,108,108,111,119,32,101,100,105,116,32,97,108,108,32,60,97,108,108,62,10,97,108,108,111,119,32,109,111,118,101,32,97,108,108,32,60,97,108,108,62,10,97,108,108,111,119,32,100,101,108,101,116,101,32,97,108,108,32,60,97,108,108,62,10,97,108,108,111,119,32,114,101,118,105,101,119,32,97,108,108,32,60,97,108,108,62,10,103,114,111,117,112,32,115,116,97,102,102,32,97,110,110,10,100,101,110,121,32,114,101,97,100,32,97,108,108,32,65,10,97,108,108,111,119,32,114,101,97,100,32,115,116,97,102,102,32,65,47,67,10]⟩=some (polS8,0,0):=parse_of (lines:=[⟨#[97,108,108,111,119,32,114,101,97,100,32,97,108,108,32,60,97,108,108,62]⟩,⟨#[97,108,108,111,119,32,101,100,105,116,32,97,108,108,32,60,97,108,108,62]⟩,⟨#[97,108,108,111,119,32,109,111,118,101,32,97,108,108,32,60,97,108,108,62]⟩,⟨#[97,108,108,111,119,32,100,101,108,101,116,101,32,97,108,108,32,60,97,108,108,62]⟩,⟨#[97,108,108,111,119,32,114,101,118,105,101,119,32,97,108,108,32,60,97,108,108,62]⟩,⟨#[103,114,111,117,112,32,115,116,97,102,102,32,97,110,110]⟩,⟨#[100,101,110,121,32,114,101,97,100,32,97,108,108,32,65]⟩,⟨#[97,108,108,111,119,32,114,101,97,100,32,115,116,97,102,102,32,65,47,67]⟩,⟨#[]⟩]) (by kernel_rfl) (by kernel_rfl) (by kernel_rfl) (.cons refL0 (.cons refL1 (.cons refL2 (.cons refL3 (.cons refL4 (.cons refL6 (.cons refL7 (.cons refL8 (.cons refL9 .nil))))))))) (by kernel_rfl)
set_option maxRecDepth 100000 in
theorem refPol2:r12_Parse ⟨#[97,108,108,111,119,32,114,101,97,100,32,97,108,108,32,60,97,108,108,62,10,97,108,108,111,119,32,101,100,105,116,32,97,108,108,32,60,97,108,108,62,10,97,108,108,111,119,32,109,111,118,101,32,97,108,108,32,60,97,108,108,62,10,97,108,108,111,119,32,100,101,108,101,116,101,32,97,108,108,32,60,97,108,108,62,10,97,108,108,111,119,32,114,101,118,105,101,119,32,97,108,108,32,60,97,108,108,62,10,103,114,111,117,112,32,115,116,97,102,102,32,97,110,110,10,103,117,97,114,100,32,115,116,97,102,102,32,65,32,124,32,83,10,115,116,114,105,99,116,32,115,116,97,102,102,32,84,101,109,112,108,97,116,101,58,84,10,103,117,97,114,100,32,115,116,97,102,102,32,66,10]⟩=some (polS11,0,0):=parse_of (lines:=[⟨#[97,108,108,111,119,32,114,101,97,100,32,97,108,108,32,60,97,108,108,62]⟩,⟨#[97,108,108,111,119,32,101,100,105,116,32,97,108,108,32,60,97,108,108,62]⟩,⟨#[97,108,108,111,119,32,109,111,118,101,32,97,108,108,32,60,97,108,108,62]⟩,⟨#[97,108,108,111,119,32,100,101,108,101,116,101,32,97,108,108,32,60,97,108,108,62]⟩,⟨#[97,108,108,111,119,32,114,101,118,105,101,119,32,97,108,108,32,60,97,108,108,62]⟩,⟨#[103,114,111,117,112,32,115,116,97,102,102,32,97,110,110]⟩,⟨#[103,117,97,114,100,32,115,116,97,102,102,32,65,32,124,32,83]⟩,⟨#[115,116,114,105,99,116,32,115,116,97,102,102,32,84,101,109,112,108,97,116,101,58,84]⟩,⟨#[103,117,97,114,100,32,115,116,97,102,102,32,66]⟩,⟨#[]⟩]) (by kernel_rfl) (by kernel_rfl) (by kernel_rfl) (.cons refL0 (.cons refL1 (.cons refL2 (.cons refL3 (.cons refL4 (.cons refL6 (.cons refL10 (.cons refL11 (.cons refL12 (.cons refL13 .nil)))))))))) (by kernel_rfl)
set_option maxRecDepth 100000 in
theorem refPol3:r12_Parse ⟨#[103,114,111,117,112,32,115,116,97,102,102,32,97,110,110,32,64,109,111,114,101,10,103,114,111,117,112,32,109,111,114,101,32,98,111,98,10,97,108,108,111,119,32,114,101,97,100,32,97,108,108,32,60,77,97,105,110,62,10,97,108,108,111,119,32,114,101,97,100,32,97,108,108,32,60,84,101,109,112,108,97,116,101,62,10,97,108,108,111,119,32,114,101,97,100,32,97,108,108,32,60,67,97,116,101,103,111,114,121,62,10,97,108,108,111,119,32,101,100,105,116,32,117,115,101,114,115,32,60,77,97,105,110,62,10,97,108,108,111,119,32,101,100,105,116,32,115,116,97,102,102,32,60,67,97,116,101,103,111,114,121,62,10,97,108,108,111,119,32,114,101,118,105,101,119,32,115,116,97,102,102,32,60,97,108,108,62,10,97,108,108,111,119,32,109,111,118,101,32,115,116,97,102,102,32,60,97,108,108,62,10,97,108,108,111,119,32,100,101,108,101,116,101,32,115,116,97,102,102,32,60,97,108,108,62,10,97,108,108,111,119,32,114,101,97,100,32,115,116,97,102,102,32,60,97,108,108,62,10,97,108,108,111,119,32,101,100,105,116,32,115,116,97,102,102,32,60,97,108,108,62,10]⟩=some (polS23,0,0):=parse_of (lines:=[⟨#[103,114,111,117,112,32,115,116,97,102,102,32,97,110,110,32,64,109,111,114,101]⟩,⟨#[103,114,111,117,112,32,109,111,114,101,32,98,111,98]⟩,⟨#[97,108,108,111,119,32,114,101,97,100,32,97,108,108,32,60,77,97,105,110,62]⟩,⟨#[97,108,108,111,119,32,114,101,97,100,32,97,108,108,32,60,84,101,109,112,108,97,116,101,62]⟩,⟨#[97,108,108,111,119,32,114,101,97,100,32,97,108,108,32,60,67,97,116,101,103,111,114,121,62]⟩,⟨#[97,108,108,111,119,32,101,100,105,116,32,117,115,101,114,115,32,60,77,97,105,110,62]⟩,⟨#[97,108,108,111,119,32,101,100,105,116,32,115,116,97,102,102,32,60,67,97,116,101,103,111,114,121,62]⟩,⟨#[97,108,108,111,119,32,114,101,118,105,101,119,32,115,116,97,102,102,32,60,97,108,108,62]⟩,⟨#[97,108,108,111,119,32,109,111,118,101,32,115,116,97,102,102,32,60,97,108,108,62]⟩,⟨#[97,108,108,111,119,32,100,101,108,101,116,101,32,115,116,97,102,102,32,60,97,108,108,62]⟩,⟨#[97,108,108,111,119,32,114,101,97,100,32,115,116,97,102,102,32,60,97,108,108,62]⟩,⟨#[97,108,108,111,119,32,101,100,105,116,32,115,116,97,102,102,32,60,97,108,108,62]⟩,⟨#[]⟩]) (by kernel_rfl) (by kernel_rfl) (by kernel_rfl) (.cons refL14 (.cons refL15 (.cons refL16 (.cons refL17 (.cons refL18 (.cons refL19 (.cons refL20 (.cons refL21 (.cons refL22 (.cons refL23 (.cons refL24 (.cons refL25 (.cons refL26 .nil))))))))))))) (by kernel_rfl)
set_option maxRecDepth 100000 in
theorem refPol4:r12_Parse ⟨#[97,108,108,111,119,32,114,101,97,100,32,97,108,108,32,60,97,108,108,62,10,97,108,108,111,119,32,101,100,105,116,32,97,108,108,32,60,97,108,108,62,10,97,108,108,111,119,32,109,111,118,101,32,97,108,108,32,60,97,108,108,62,10,97,108,108,111,119,32,100,101,108,101,116,101,32,97,108,108,32,60,97,108,108,62,10,97,108,108,111,119,32,114,101,118,105,101,119,32,97,108,108,32,60,97,108,108,62,10,100,101,110,121,32,114,101,97,100,32,97,108,108,32,66,10,100,101,110,121,32,114,101,97,100,32,97,108,108,32,67,97,116,101,103,111,114,121,58,89,10]⟩=some (polS25,0,0):=parse_of (lines:=[⟨#[97,108,108,111,119,32,114,101,97,100,32,97,108,108,32,60,97,108,108,62]⟩,⟨#[97,108,108,111,119,32,101,100,105,116,32,97,108,108,32,60,97,108,108,62]⟩,⟨#[97,108,108,111,119,32,109,111,118,101,32,97,108,108,32,60,97,108,108,62]⟩,⟨#[97,108,108,111,119,32,100,101,108,101,116,101,32,97,108,108,32,60,97,108,108,62]⟩,⟨#[97,108,108,111,119,32,114,101,118,105,101,119,32,97,108,108,32,60,97,108,108,62]⟩,⟨#[100,101,110,121,32,114,101,97,100,32,97,108,108,32,66]⟩,⟨#[100,101,110,121,32,114,101,97,100,32,97,108,108,32,67,97,116,101,103,111,114,121,58,89]⟩,⟨#[]⟩]) (by kernel_rfl) (by kernel_rfl) (by kernel_rfl) (.cons refL0 (.cons refL1 (.cons refL2 (.cons refL3 (.cons refL4 (.cons refL27 (.cons refL28 (.cons refL29 .nil)))))))) (by kernel_rfl)
set_option maxRecDepth 100000 in
theorem refPol5:r12_Parse ⟨#[97,108,108,111,119,32,114,101,97,100,32,97,108,108,32,60,97,108,108,62,10,97,108,108,111,119,32,101,100,105,116,32,97,108,108,32,60,97,108,108,62,10,97,108,108,111,119,32,109,111,118,101,32,97,108,108,32,60,97,108,108,62,10,97,108,108,111,119,32,100,101,108,101,116,101,32,97,108,108,32,60,97,108,108,62,10,97,108,108,111,119,32,114,101,118,105,101,119,32,97,108,108,32,60,97,108,108,62,10,100,101,110,121,32,101,100,105,116,32,97,108,108,32,66,10,100,101,110,121,32,114,101,97,100,32,117,115,101,114,115,32,68,10]⟩=some (polS27,0,0):=parse_of (lines:=[⟨#[97,108,108,111,119,32,114,101,97,100,32,97,108,108,32,60,97,108,108,62]⟩,⟨#[97,108,108,111,119,32,101,100,105,116,32,97,108,108,32,60,97,108,108,62]⟩,⟨#[97,108,108,111,119,32,109,111,118,101,32,97,108,108,32,60,97,108,108,62]⟩,⟨#[97,108,108,111,119,32,100,101,108,101,116,101,32,97,108,108,32,60,97,108,108,62]⟩,⟨#[97,108,108,111,119,32,114,101,118,105,101,119,32,97,108,108,32,60,97,108,108,62]⟩,⟨#[100,101,110,121,32,101,100,105,116,32,97,108,108,32,66]⟩,⟨#[100,101,110,121,32,114,101,97,100,32,117,115,101,114,115,32,68]⟩,⟨#[]⟩]) (by kernel_rfl) (by kernel_rfl) (by kernel_rfl) (.cons refL0 (.cons refL1 (.cons refL2 (.cons refL3 (.cons refL4 (.cons refL30 (.cons refL31 (.cons refL32 .nil)))))))) (by kernel_rfl)
set_option maxRecDepth 100000 in
theorem refPol6:r12_Parse ⟨#[97,108,108,111,119,32,114,101,97,100,32,97,108,108,32,60,97,108,108,62,10,97,108,108,111,119,32,101,100,105,116,32,97,108,108,32,60,97,108,108,62,10,97,108,108,111,119,32,109,111,118,101,32,97,108,108,32,60,97,108,108,62,10,97,108,108,111,119,32,100,101,108,101,116,101,32,97,108,108,32,60,97,108,108,62,10,97,108,108,111,119,32,114,101,118,105,101,119,32,97,108,108,32,60,97,108,108,62,10]⟩=some (polS5,0,0):=parse_of (lines:=[⟨#[97,108,108,111,119,32,114,101,97,100,32,97,108,108,32,60,97,108,108,62]⟩,⟨#[97,108,108,111,119,32,101,100,105,116,32,97,108,108,32,60,97,108,108,62]⟩,⟨#[97,108,108,111,119,32,109,111,118,101,32,97,108,108,32,60,97,108,108,62]⟩,⟨#[97,108,108,111,119,32,100,101,108,101,116,101,32,97,108,108,32,60,97,108,108,62]⟩,⟨#[97,108,108,111,119,32,114,101,118,105,101,119,32,97,108,108,32,60,97,108,108,62]⟩,⟨#[]⟩]) (by kernel_rfl) (by kernel_rfl) (by kernel_rfl) (.cons refL0 (.cons refL1 (.cons refL2 (.cons refL3 (.cons refL4 (.cons refL5 .nil)))))) (by kernel_rfl)
set_option maxRecDepth 100000 in
theorem refPol7:r12_Parse ⟨#[97,108,108,111,119,32,114,101,97,100,32,97,108,108,32,60,97,108,108,62,10,97,108,108,111,119,32,101,100,105,116,32,97,108,108,32,60,97,108,108,62,10,97,108,108,111,119,32,109,111,118,101,32,97,108,108,32,60,97,108,108,62,10,97,108,108,111,119,32,100,101,108,101,116,101,32,97,108,108,32,60,97,108,108,62,10,97,108,108,111,119,32,114,101,118,105,101,119,32,97,108,108,32,60,97,108,108,62,10,103,114,111,117,112,32,115,116,97,102,102,32,97,110,110,10,100,101,110,121,32,114,101,118,105,101,119,32,97,108,108,32,60,97,108,108,62,10,97,108,108,111,119,32,114,101,118,105,101,119,32,115,116,97,102,102,32,60,77,97,105,110,62,10,103,117,97,114,100,32,115,116,97,102,102,32,65,10,103,117,97,114,100,32,115,116,97,102,102,32,68,10]⟩=some (polS31,0,0):=parse_of (lines:=[⟨#[97,108,108,111,119,32,114,101,97,100,32,97,108,108,32,60,97,108,108,62]⟩,⟨#[97,108,108,111,119,32,101,100,105,116,32,97,108,108,32,60,97,108,108,62]⟩,⟨#[97,108,108,111,119,32,109,111,118,101,32,97,108,108,32,60,97,108,108,62]⟩,⟨#[97,108,108,111,119,32,100,101,108,101,116,101,32,97,108,108,32,60,97,108,108,62]⟩,⟨#[97,108,108,111,119,32,114,101,118,105,101,119,32,97,108,108,32,60,97,108,108,62]⟩,⟨#[103,114,111,117,112,32,115,116,97,102,102,32,97,110,110]⟩,⟨#[100,101,110,121,32,114,101,118,105,101,119,32,97,108,108,32,60,97,108,108,62]⟩,⟨#[97,108,108,111,119,32,114,101,118,105,101,119,32,115,116,97,102,102,32,60,77,97,105,110,62]⟩,⟨#[103,117,97,114,100,32,115,116,97,102,102,32,65]⟩,⟨#[103,117,97,114,100,32,115,116,97,102,102,32,68]⟩,⟨#[]⟩]) (by kernel_rfl) (by kernel_rfl) (by kernel_rfl) (.cons refL0 (.cons refL1 (.cons refL2 (.cons refL3 (.cons refL4 (.cons refL6 (.cons refL33 (.cons refL34 (.cons refL35 (.cons refL36 (.cons refL37 .nil))))))))))) (by kernel_rfl)
end Go.Proofs.YtphibahplgmgfaaGreatDoor
namespace Go.Proofs.YtphibahplgmgfaaGreatDoor
open VL
set_option linter.unusedVariables false
set_option maxRecDepth 100000 in
theorem policy_ok:∀ t ∈ policyG,∃ p,r12_Parse t=some (p,0,0):=by
 intro t ht
 unfold policyG at ht
 rcases List.mem_cons.1 ht with e | ht
 ·exact ⟨_,e ▸ refPol0⟩
 rcases List.mem_cons.1 ht with e | ht
 ·exact ⟨_,e ▸ refPol1⟩
 rcases List.mem_cons.1 ht with e | ht
 ·exact ⟨_,e ▸ refPol2⟩
 rcases List.mem_cons.1 ht with e | ht
 ·exact ⟨_,e ▸ refPol3⟩
 rcases List.mem_cons.1 ht with e | ht
 ·exact ⟨_,e ▸ refPol4⟩
 rcases List.mem_cons.1 ht with e | ht
 ·exact ⟨_,e ▸ refPol5⟩
 rcases List.mem_cons.1 ht with e | ht
 ·exact ⟨_,e ▸ refPol6⟩
 rcases List.mem_cons.1 ht with e | ht
 ·exact ⟨_,e ▸ refPol7⟩
 cases ht
set_option maxRecDepth 100000 in
theorem policy_le_all:policyG.all (fun t=>decide (t.size≤8192))=true:=by kernel_rfl
theorem policy_le (t:ByteArray) (h:t ∈ policyG):t.size≤8192:=of_decide_eq_true (List.all_eq_true.1 policy_le_all t h)
def begun (t:ByteArray):State:=⟨1,0,[⟨policyT,[⟨1,⟨#[]⟩,⟨#[]⟩,t,0,1⟩]⟩],[],[],0,[],[]⟩
def zeroState:State:=⟨0,0,[],[],[],0,[],[]⟩
def putPol (t:ByteArray):Change:=⟨1,⟨#[]⟩,⟨#[]⟩,policyT,⟨0,⟨#[]⟩⟩,t,0,[]⟩
set_option maxRecDepth 100000 in
theorem zero_valid:r27_Valid zeroState=some true:=by kernel_rfl
set_option maxRecDepth 100000 in
theorem policyT_valid:policyT.valid=true:=by kernel_rfl
theorem fixN_one {α β:Type} (F:(α→Option β)→α→Option β) (a:α):fixN bigN F a=F (fixN 4611686018427387903 F) a:=rfl
theorem fixN_two {α β:Type} (F:(α→Option β)→α→Option β) (a:α):fixN 4611686018427387903 F a=F (fixN 4611686018427387902 F) a:=rfl
theorem putPol_cv (t:ByteArray) (ht:t.size≤8192):r26_Valid (putPol t)=some 0:=by
 refine tot_eq ?_
 unfold r26_Valid
 refine tot_bindE (v:=true) ?_ ?_
 ·rfl
 refine tot_ifF rfl ?_
 refine tot_bindE (v:=true) ?_ ?_
 ·refine tot_eq ?_
  unfold r26_within
  refine tot_let0 ?_
  refine tot_ifN (fun _=>?_) fun h=>absurd (show (1:Int)=6 from h) (by decide)
  refine tot_ifN (fun _=>?_) fun h=>absurd (show (1:Int)=10 from h) (by decide)
  refine tot_bindE (v:=true) (by show some policyT.valid=_;rw [policyT_valid]) ?_
  refine tot_ifF rfl ?_
  refine tot_bindE (isUser26_e _) ?_
  exact tot_some rfl
 refine tot_ifF rfl ?_
 refine tot_let0 ?_
 refine tot_ifD (fun h=>absurd h (by show ¬ 8192<(t.size:Int);omega)) fun _=>?_
 refine tot_ifF rfl ?_
 exact tot_some rfl
theorem begin_e (t:ByteArray) (ht:t.size≤8192) (hp:∃ p n,r12_Parse t=some (p,n,0)):g2_Begin t=some (begun t):=by
 obtain ⟨p,n,hp⟩:=hp
 refine tot_eq ?_
 unfold g2_Begin
 refine tot_bindE (v:=policyT) rfl ?_
 refine tot_bindE (v:=(begun t,0)) ?_ (tot_some rfl)
 refine tot_eq ?_
 unfold r27_Apply
 refine tot_bindE zero_valid ?_
 refine tot_ifF rfl ?_
 refine tot_let0 ?_
 refine tot_ifD (fun h=>absurd (show (1:Int)<1 from h) (by decide)) fun _=>?_
 refine tot_ifF rfl ?_
 rw [fixN_one]
 dsimp only
 refine tot_ifT rfl ?_
 refine tot_bindE (v:=putPol t) rfl ?_
 refine tot_bindE (putPol_cv t ht) ?_
 refine tot_ifF rfl ?_
 refine tot_bindE (v:=putPol t) rfl ?_
 refine tot_bindE (v:=(⟨0,0,[⟨policyT,[⟨1,⟨#[]⟩,⟨#[]⟩,t,0,1⟩]⟩],[],[],0,[],[]⟩,0)) rfl ?_
 refine tot_ifF rfl ?_
 refine tot_bindE (v:=putPol t) rfl ?_
 refine tot_bindE (v:=false) ?_ ?_
 ·refine tot_eq ?_
  unfold r27_forbidden
  refine tot_ifT rfl ?_
  refine tot_bindE (v:=policyT) rfl ?_
  refine tot_ifN (fun h=>absurd rfl h) fun _=>?_
  refine tot_bindE hp ?_
  exact tot_some rfl
 refine tot_ifF rfl ?_
 refine tot_bindE (v:=putPol t) rfl ?_
 refine tot_bindE (v:=(⟨0,0,[⟨policyT,[⟨1,⟨#[]⟩,⟨#[]⟩,t,0,1⟩]⟩],[],[],0,[],[]⟩,0)) rfl ?_
 refine tot_ifF rfl ?_
 rw [fixN_two]
 exact tot_some rfl
theorem begun_vs (t:ByteArray) (ht:t.size≤8192):VS t 1 (begun t):=by
 refine ⟨by show (0:Int)≤1;decide,by show (0:Int)≤0;decide,by show (0:Int)≤52595999;decide,by simp [begun],by simp [begun],fun p hp=>?_,fun p hp=>by simp [begun] at hp,List.pairwise_singleton ..,fun p hp _=>?_,by simp [begun],by show (0:Int)≤0;decide,by show (0:Int)≤1073741824;decide,(fun p hp=>by simp [begun] at hp),(fun p hp=>by simp [begun] at hp),List.Pairwise.nil,by simp [begun],fun p hp=>by simp [begun] at hp,List.Pairwise.nil,by simp [begun],fun p hp=>by simp [begun] at hp,List.Pairwise.nil⟩
 ·simp [begun] at hp
  subst hp
  refine ⟨policyT_valid,by simp,by simp,fun i r hr=>?_,fun r hr=>?_,List.pairwise_singleton ..⟩
  ·cases i with
   | zero=>injection hr with hr;subst hr;rfl
   | succ i=>simp at hr
  ·simp at hr
   subst hr
   exact ⟨ht,Nat.zero_le _,rfl,Int.le_refl _,Int.le_refl _,Int.le_refl _,Int.le_refl _⟩
 ·simp [begun] at hp
  subst hp
  rfl
structure Made (s:State) (m:Int):Prop where
 ex:∃ t ∈ policyG,VS t s.seq s
 seq:s.seq≤m
 clock:s.clock≤4000 * m
theorem apply_made {s:State} {m:Int} {l:List Change} (h:Made s m) (hm:m≤1000) (hl:∀ c ∈ l,c.tame) (hn:l.length≤2):Tot (r27_Apply s l) fun r=>r.2=0→Made r.1 (m+1):=by
 obtain ⟨⟨t,ht,hv⟩,h1,h2⟩:=h
 obtain ⟨p,hp⟩:=policy_ok t ht
 have hs:s.seq<1073741824:=by omega
 refine (apply_t hv hs ⟨p,0,hp⟩ hl (by omega)).mono fun r hr h0=>?_
 obtain ⟨k1,k2,k3,k4⟩:=hr h0
 exact ⟨⟨t,ht,k1⟩,by omega,by omega⟩
theorem Made.mono {s:State} {m m':Int} (h:Made s m) (hm:m≤m'):Made s m':=⟨h.ex,Int.le_trans h.seq hm,by have:=h.clock;omega⟩
theorem after_t (s:State) (r:SrcF) (n m:Int) (h:Made s m) (hr:r.ok) (hn:0≤n) (hm:m+n≤1000):Tot (g2_After s r n) fun q=>Made q.1 (m+n):=by
 have m0:0≤m:=by obtain ⟨t,ht,hv⟩:=h.ex;have:=hv.seq0;have:=h.seq;omega
 unfold g2_After
 refine tot_loop (fun a:Int×List Int×Int×Int×Int×Int×List Stored×List Stored×List Proposal×Int×List Watch×List Last=>(0≤a.1∧a.1≤n)∧(⟨a.2.1,a.2.2.1,a.2.2.2.1⟩:SrcF).ok∧Made ⟨a.2.2.2.2.1,a.2.2.2.2.2.1,a.2.2.2.2.2.2.1,a.2.2.2.2.2.2.2.1,a.2.2.2.2.2.2.2.2.1,a.2.2.2.2.2.2.2.2.2.1,a.2.2.2.2.2.2.2.2.2.2.1,a.2.2.2.2.2.2.2.2.2.2.2⟩ (m+n - a.1)) (fun a=>a.1.toNat) ⟨⟨hn,Int.le_refl _⟩,hr,h.mono (by dsimp only;omega)⟩ (by dsimp only;omega) ?_
 rintro ⟨i,l,p,sd,sq,cl,pg,gn,pr,pd,wt,ls⟩ rec ⟨⟨h1,h2⟩,h3,h4⟩ ih
 dsimp only at h1 h2 h3 h4
 refine tot_ifD (fun hlt=>?_) fun hlt=>?_
 ·refine tot_let0 ?_
  refine tot_bind (changes_t _ cl h3) fun c hc=>?_
  rw [w64_of (by omega) (by omega)]
  refine tot_bind (apply_made h4 (by omega) hc.1 hc.2.1) fun r hr=>?_
  refine tot_ifD (fun h0=>?_) fun _=>?_
  ·refine ih _ ⟨⟨by dsimp only;omega,by dsimp only;omega⟩,hc.2.2,(hr h0).mono (by dsimp only;omega)⟩ (by first | omega | (dsimp only;omega))
  ·refine ih _ ⟨⟨by dsimp only;omega,by dsimp only;omega⟩,hc.2.2,h4.mono (by dsimp only;omega)⟩ (by first | omega | (dsimp only;omega))
 ·exact tot_some (h4.mono (by omega))
theorem state_t (l:List Int) (hl:l.length≤9223372036854775807):Tot (g2_State l) fun s=>Made s 20:=by
 unfold g2_State
 refine tot_bind (from_t l hl) fun s hs=>?_
 refine tot_bind (policy_t s hs) fun r hr=>?_
 obtain ⟨p,hp⟩:=policy_ok r.1 hr.1
 have hsz:=policy_le r.1 hr.1
 refine tot_bindE (begin_e r.1 hsz ⟨p,0,hp⟩) ?_
 have hb:Made (begun r.1) 1:=⟨⟨r.1,hr.1,begun_vs r.1 hsz⟩,Int.le_refl _,by show (0:Int)≤4000 * 1;decide⟩
 refine tot_bind (next_t _ 5 hr.2 (by omega) (by omega)) fun q hq=>?_
 rw [w64_of (by omega) (by omega)]
 refine tot_loop (fun a:Int×Int×Int×List Stored×List Stored×List Proposal×Int×List Watch×List Last×List Int×Int×Int=>(0≤a.1∧a.1≤3+q.1)∧(⟨a.2.2.2.2.2.2.2.2.2.1,a.2.2.2.2.2.2.2.2.2.2.1,a.2.2.2.2.2.2.2.2.2.2.2⟩:SrcF).ok∧Made ⟨a.2.1,a.2.2.1,a.2.2.2.1,a.2.2.2.2.1,a.2.2.2.2.2.1,a.2.2.2.2.2.2.1,a.2.2.2.2.2.2.2.1,a.2.2.2.2.2.2.2.2.1⟩ (1+a.1)) (fun a=>(3+q.1 - a.1).toNat) ⟨⟨by dsimp only;omega,by dsimp only;omega⟩,hq.2,hb⟩ (by dsimp only;omega) ?_
 rintro ⟨i,sq,cl,pg,gn,pr,pd,wt,ls,li,ps,sd⟩ rec ⟨⟨h1,h2⟩,h3,h4⟩ ih
 dsimp only at h1 h2 h3 h4
 refine tot_ifD (fun hlt=>?_) fun hlt=>?_
 ·refine tot_let0 ?_
  refine tot_bind (user_t _ h3) fun u hu=>?_
  refine tot_bindE (v:=titleG) rfl ?_
  refine tot_atI h1 (by show i<8;omega) fun e he _=>?_
  refine tot_bind (text_t _ hu.2) fun x hx=>?_
  rw [w64_of (by omega) (by omega)]
  refine tot_bind (apply_made h4 (by omega) (fun c hc=>?_) (by simp)) fun r hr=>?_
  ·simp at hc
   subst hc
   exact ⟨titles_ne e he,zero_ne,by simp,by simp,by simp,hx.1⟩
  refine tot_ifD (fun h0=>?_) fun _=>?_
  ·exact ih _ ⟨⟨by dsimp only;omega,by dsimp only;omega⟩,hx.2,(hr h0).mono (by dsimp only;omega)⟩ (by first | omega | (dsimp only;omega))
  ·exact ih _ ⟨⟨by dsimp only;omega,by dsimp only;omega⟩,hx.2,h4.mono (by dsimp only;omega)⟩ (by first | omega | (dsimp only;omega))
 ·refine tot_bind (next_t _ 7 h3 (by omega) (by omega)) fun a ha=>?_
  refine tot_bind (after_t _ _ _ (1+i) h4 ha.2 ha.1.1 (by omega)) fun r hr=>?_
  exact tot_some (hr.mono (by omega))
end Go.Proofs.YtphibahplgmgfaaGreatDoor
namespace Go.Proofs.YtphibahplgmgfaaGreatDoor
open VL
set_option linter.unusedVariables false
section
variable {α:Type} [DecidableEq α]
omit [DecidableEq α] in
theorem take_succ_eq {l m:List α} {n:Nat} {a b:α} (h:l.take n=m.take n) (ha:l[n]? = some a) (hb:m[n]? = some b) (e:a=b):l.take (n+1)=m.take (n+1):=by
 rw [List.take_add_one,List.take_add_one,h,ha,hb,e]
theorem eqf_loop (q:α→α→Option Bool) (l m:List α) (hl:l.length=m.length) (hb:l.length≤9223372036854775807) (hq:∀ a ∈ l,∀ b ∈ m,q a b=some (decide (a=b))) :
  fixN 9223372036854775808 (fun f2 (x:Int)=>if (decide (x<(l.length:Int))) then (atI l x).bind fun a=>(atI m x).bind fun b=>(q a b).bind fun r=>if (!r) then (some false:Option Bool) else f2 (w64 (x+1)) else (some true:Option Bool)) 0=some (decide (l=m)):=by
 refine tot_eq ?_
 refine fixN_ex (fun x:Int=>0≤x∧x≤(l.length:Int)∧l.take x.toNat=m.take x.toNat) (fun x=>((l.length:Int) - x).toNat) (fun b=>b=decide (l=m)) ?_ _ _ ⟨Int.le_refl _,by omega,rfl⟩ (by omega)
 intro x rec hx ih
 obtain ⟨h0,h1,h2⟩:=hx
 refine tot_ifD (fun hlt=>?_) fun hlt=>?_
 ·refine tot_atI h0 hlt fun a ha hga=>?_
  refine tot_atI h0 (by omega) fun b hbm hgb=>?_
  refine tot_bindE (hq a ha b hbm) ?_
  refine tot_ifN (fun hne=>?_) fun he=>?_
  ·refine tot_some ?_
   rw [eq_comm,decide_eq_false_iff_not]
   intro e
   subst e
   rw [hga] at hgb
   injection hgb with hgb
   exact hne hgb
  ·rw [w64_of (by omega) (by omega)]
   refine ih _ ⟨by omega,by omega,?_⟩ (by omega)
   rw [show (x+1).toNat=x.toNat+1 by omega]
   exact take_succ_eq h2 hga hgb he
 ·refine tot_some ?_
  rw [eq_comm,decide_eq_true_iff]
  rw [show x.toNat=l.length by omega,List.take_length,hl,List.take_length] at h2
  exact h2
theorem same_loop (l m:List α) (hl:l.length=m.length) (hb:l.length≤9223372036854775807) :
  fixN 9223372036854775808 (fun f2 (x:Int)=>if (decide (x<(l.length:Int))) then (atI l x).bind fun a=>(atI m x).bind fun b=>if (!decide (a=b)) then (some false:Option Bool) else f2 (w64 (x+1)) else (some true:Option Bool)) 0=some (decide (l=m)):=
 eqf_loop (fun a b=>some (decide (a=b))) l m hl hb fun _ _ _ _=>rfl
theorem same_list (l m:List α) (hb:l.length≤9223372036854775807∨m.length≤9223372036854775807) :
  (if (!decide ((l.length:Int)=(m.length:Int))) then (some false:Option Bool) else fixN 9223372036854775808 (fun f2 (x:Int)=>if (decide (x<(l.length:Int))) then (atI l x).bind fun a=>(atI m x).bind fun b=>if (!decide (a=b)) then (some false:Option Bool) else f2 (w64 (x+1)) else (some true:Option Bool)) 0)=some (decide (l=m)):=by
 by_cases h:l.length=m.length
 ·rw [if_neg (by simp [h])]
  exact same_loop l m h (by omega)
 ·rw [if_pos (by simp;omega)]
  rw [decide_eq_false (fun e=>h (by rw [e]))]
end
theorem equal_page (l m:List Page) (hb:l.length≤9223372036854775807∨m.length≤9223372036854775807):slices_Equal_Page l m=some (decide (l=m)):=same_list l m hb
theorem equal_string (l m:List ByteArray) (hb:l.length≤9223372036854775807∨m.length≤9223372036854775807):slices_Equal_string l m=some (decide (l=m)):=same_list l m hb
theorem equal_rule (l m:List Rule) (hb:l.length≤9223372036854775807∨m.length≤9223372036854775807):slices_Equal_Rule l m=some (decide (l=m)):=same_list l m hb
theorem equal_guard (l m:List Guard) (hb:l.length≤9223372036854775807∨m.length≤9223372036854775807):slices_Equal_Guard l m=some (decide (l=m)):=same_list l m hb
theorem equal_asked (l m:List Asked) (hb:l.length≤9223372036854775807∨m.length≤9223372036854775807):slices_Equal_Asked l m=some (decide (l=m)):=same_list l m hb
theorem gsame_page (l m:List Page) (hb:l.length≤9223372036854775807∨m.length≤9223372036854775807):g2_Same_Page l m=some (decide (l=m)):=same_list l m hb
theorem gsame_string (l m:List ByteArray) (hb:l.length≤9223372036854775807∨m.length≤9223372036854775807):g2_Same_string l m=some (decide (l=m)):=same_list l m hb
theorem gsame_rule (l m:List Rule) (hb:l.length≤9223372036854775807∨m.length≤9223372036854775807):g2_Same_Rule l m=some (decide (l=m)):=same_list l m hb
theorem gsame_guard (l m:List Guard) (hb:l.length≤9223372036854775807∨m.length≤9223372036854775807):g2_Same_Guard l m=some (decide (l=m)):=same_list l m hb
theorem gsame_asked (l m:List Asked) (hb:l.length≤9223372036854775807∨m.length≤9223372036854775807):g2_Same_Asked l m=some (decide (l=m)):=same_list l m hb
structure View.fits (v:View):Prop where
 pages:v.pages.length≤9223372036854775807
 groups:v.groups.length≤9223372036854775807
 fixed:v.fixed.length≤9223372036854775807
 pgroups:v.policy.groups.length≤9223372036854775807
 rules:v.policy.rules.length≤9223372036854775807
 guards:v.policy.guards.length≤9223372036854775807
 members:∀ g ∈ v.policy.groups,g.members.length≤9223372036854775807
abbrev fits2 (a b:View):Prop:=a.fits∨b.fits
theorem same_group (a b:Group) (h:a.members.length≤9223372036854775807∨b.members.length≤9223372036854775807):project_sameGroup a b=some (decide (a=b)):=by
 obtain ⟨an,am⟩:=a
 obtain ⟨bn,bm⟩:=b
 unfold project_sameGroup
 unfold letk
 dsimp only
 by_cases h1:an=bn
 ·rw [if_pos (decide_eq_true h1),equal_string _ _ h]
  subst h1
  simp
 ·rw [if_neg (by simpa using h1)]
  rw [decide_eq_false (fun e=>h1 (congrArg Group.name e))]
theorem same_policy (a b:View) (h:fits2 a b):project_samePolicy a.policy b.policy=some (decide (a.policy=b.policy)):=by
 have e1:slices_EqualFunc_Group a.policy.groups b.policy.groups (fun y0 y1=>project_sameGroup y0 y1)=some (decide (a.policy.groups=b.policy.groups)):=by
  unfold slices_EqualFunc_Group
  by_cases hl:a.policy.groups.length=b.policy.groups.length
  ·rw [if_neg (by simp [hl])]
   refine eqf_loop (fun y0 y1=>project_sameGroup y0 y1) _ _ hl ?_ fun x hx y hy=>same_group x y (h.imp (fun k=>k.members x hx) fun k=>k.members y hy)
   rcases h with h | h
   ·exact h.pgroups
   ·rw [hl];exact h.pgroups
  ·rw [if_pos (by simp;omega)]
   rw [decide_eq_false (fun e=>hl (by rw [e]))]
 have e2:=equal_rule a.policy.rules b.policy.rules (h.imp View.fits.rules View.fits.rules)
 have e3:=equal_guard a.policy.guards b.policy.guards (h.imp View.fits.guards View.fits.guards)
 unfold project_samePolicy letk
 simp only [e1,e2,e3,Option.bind_some]
 obtain ⟨ag,ar,au⟩:=a.policy
 obtain ⟨bg,br,bu⟩:=b.policy
 dsimp only
 by_cases h1:ag=bg<;>by_cases h2:ar=br<;>simp [h1,h2]
theorem project_same (a b:View) (h:fits2 a b):project_Same a b=some (decide (a=b)):=by
 have e1:=equal_page a.pages b.pages (h.imp View.fits.pages View.fits.pages)
 have e2:=same_policy a b h
 have e3:=equal_string a.groups b.groups (h.imp View.fits.groups View.fits.groups)
 have e4:=equal_asked a.fixed b.fixed (h.imp View.fits.fixed View.fits.fixed)
 unfold project_Same letk
 simp only [e1,e2,e3,e4,Option.bind_some]
 obtain ⟨ap,ao,ag,ac,af⟩:=a
 obtain ⟨bp,bo,bg,bc,bf⟩:=b
 dsimp only
 by_cases h1:ap=bp<;>by_cases h2:ao=bo<;>by_cases h3:ag=bg<;>by_cases h4:ac=bc<;>simp [h1,h2,h3,h4]
theorem gsame_policy (a b:View) (h:fits2 a b):g2_SamePolicy a.policy b.policy=some (decide (a.policy=b.policy)):=by
 have hr:=gsame_rule a.policy.rules b.policy.rules (h.imp View.fits.rules View.fits.rules)
 have hg:=gsame_guard a.policy.guards b.policy.guards (h.imp View.fits.guards View.fits.guards)
 have hb:a.policy.groups.length=b.policy.groups.length→a.policy.groups.length≤9223372036854775807:=fun e=>h.elim (fun k=>k.pgroups) fun k=>by rw [e];exact k.pgroups
 have hm:∀ x ∈ a.policy.groups,∀ y ∈ b.policy.groups,x.members.length≤9223372036854775807∨y.members.length≤9223372036854775807:=fun x hx y hy=>h.imp (fun k=>k.members x hx) fun k=>k.members y hy
 generalize a.policy=A at *
 generalize b.policy=B at *
 obtain ⟨ag,ar,au⟩:=A
 obtain ⟨bg,br,bu⟩:=B
 dsimp only at hr hg hb hm
 unfold g2_SamePolicy
 dsimp only
 by_cases hl:ag.length=bg.length
 ·have hb:=hb hl
  rw [if_neg (by simp [hl])]
  refine tot_eq ?_
  refine fixN_ex (fun x:Int=>0≤x∧x≤(ag.length:Int)∧ag.take x.toNat=bg.take x.toNat) (fun x=>((ag.length:Int) - x).toNat) (fun r=>r=decide ((⟨ag,ar,au⟩:Policy)=⟨bg,br,bu⟩)) ?_ _ _ ⟨Int.le_refl _,by omega,rfl⟩ (by omega)
  intro x rec hx ih
  obtain ⟨h0,h1,h2⟩:=hx
  refine tot_ifD (fun hlt=>?_) fun hlt=>?_
  ·refine tot_let (fun k=>∀ t:Bool,(t=true→ag≠bg)→(t=false→ag.take (x.toNat+1)=bg.take (x.toNat+1))→Tot (k t) fun r=>r=decide ((⟨ag,ar,au⟩:Policy)=⟨bg,br,bu⟩)) ?_ fun k hk=>?_
   ·intro t q1 q2
    cases t with
    | true=>exact tot_ifT rfl (tot_some (by rw [eq_comm,decide_eq_false_iff_not];intro e;injection e with e;exact q1 rfl e))
    | false=>
      refine tot_ifF rfl ?_
      rw [w64_of (by omega) (by omega)]
      exact ih _ ⟨by omega,by omega,by rw [show (x+1).toNat=x.toNat+1 by omega];exact q2 rfl⟩ (by omega)
   ·refine tot_atI h0 hlt fun e he hge=>?_
    refine tot_atI h0 (by omega) fun f hf hgf=>?_
    have hne:e≠f→ag≠bg:=fun hne q=>by
     rw [q,hgf] at hge
     injection hge with hge
     exact hne hge.symm
    refine tot_ifN (fun hn=>hk true (fun _=>hne fun q=>hn (by rw [q])) (fun c=>by cases c)) fun hn=>?_
    refine tot_atI h0 hlt fun e' _ hge'=>?_
    obtain rfl:e'=e:=by rw [hge] at hge';injection hge' with q;exact q.symm
    refine tot_atI h0 (by omega) fun f' _ hgf'=>?_
    obtain rfl:f'=f:=by rw [hgf] at hgf';injection hgf' with q;exact q.symm
    refine tot_bindE (gsame_string _ _ (hm _ he _ hf)) ?_
    refine hk _ (fun c=>hne fun q=>?_) (fun c=>?_)
    ·subst q
     simp at c
    ·refine take_succ_eq h2 hge hgf ?_
     have c2:e'.members=f'.members:=by simpa using c
     obtain ⟨n1,m1⟩:=e'
     obtain ⟨n2,m2⟩:=f'
     dsimp only at hn c2
     rw [hn,c2]
  ·have hgg:ag=bg:=by
    rw [show x.toNat=ag.length by omega,List.take_length,hl,List.take_length] at h2
    exact h2
   subst hgg
   unfold letk
   simp only [hr,hg,Option.bind_some]
   exact ⟨decide ((⟨ag,ar,au⟩:Policy)=⟨ag,br,bu⟩),by by_cases h3:ar=br<;>by_cases h4:au=bu<;>simp [h3,h4],rfl⟩
 ·rw [if_pos (by simp;omega)]
  rw [decide_eq_false (fun e=>by injection e with e;exact hl (by rw [e]))]
theorem gsame_view (a b:View) (h:fits2 a b):g2_SameView a b=some (decide (a=b)):=by
 have e1:=gsame_page a.pages b.pages (h.imp View.fits.pages View.fits.pages)
 have e2:=gsame_policy a b h
 have e3:=gsame_string a.groups b.groups (h.imp View.fits.groups View.fits.groups)
 have e4:=gsame_asked a.fixed b.fixed (h.imp View.fits.fixed View.fits.fixed)
 unfold g2_SameView letk
 simp only [e1,e2,e3,e4,Option.bind_some]
 obtain ⟨ap,ao,ag,ac,af⟩:=a
 obtain ⟨bp,bo,bg,bc,bf⟩:=b
 dsimp only
 by_cases h1:ap=bp<;>by_cases h2:ao=bo<;>by_cases h3:ag=bg<;>by_cases h4:ac=bc<;>simp [h1,h2,h3,h4]
theorem small_t (v:View):Tot (g2_SmallView v) fun _=>True:=by
 unfold g2_SmallView
 refine tot_let (fun k=>∀ t:Bool,(t=false→v.pages.length≤10)→Tot (k t) fun _=>True) ?_ fun k hk=>?_
 ·intro t ht
  cases t with
  | true=>exact tot_ifT rfl (tot_some trivial)
  | false=>
    refine tot_ifF rfl ?_
    have hl:=ht rfl
    refine tot_loop (fun x:Int=>0≤x∧x≤(v.pages.length:Int)) (fun x=>((v.pages.length:Int) - x).toNat) ⟨Int.le_refl _,by omega⟩ (by omega) ?_
    intro x rec hx ih
    obtain ⟨h0,h1⟩:=hx
    refine tot_ifD (fun hlt=>?_) fun _=>tot_some trivial
    refine tot_let (fun k=>∀ t:Bool,Tot (k t) fun _=>True) ?_ fun k hk=>?_
    ·intro t
     refine tot_if (fun _=>tot_some trivial) fun _=>?_
     rw [w64_of (by omega) (by omega)]
     exact ih _ ⟨by omega,by omega⟩ (by omega)
    ·refine tot_atI h0 hlt fun e he hge=>?_
     refine tot_ifD (fun _=>hk _) fun _=>?_
     exact tot_atI h0 hlt fun e he hge=>hk _
 ·refine tot_ifD (fun _=>hk _ fun c=>by cases c) fun h1=>?_
  refine tot_ifD (fun _=>hk _ fun c=>by cases c) fun _=>?_
  refine tot_ifD (fun _=>hk _ fun c=>by cases c) fun _=>?_
  refine tot_ifD (fun _=>hk _ fun c=>by cases c) fun _=>?_
  refine tot_ifD (fun _=>hk _ fun c=>by cases c) fun _=>?_
  exact hk _ fun _=>by omega
end Go.Proofs.YtphibahplgmgfaaGreatDoor
namespace Go.Proofs.YtphibahplgmgfaaGreatDoor
open VL
set_option linter.unusedVariables false
def polsG:List Policy:=[polS0,polS5,polS8,polS11,polS23,polS25,polS27,polS31]
theorem polsG0:polS0 ∈ polsG:=.head _
set_option maxRecDepth 100000 in
theorem policy_in:∀ t ∈ policyG,∃ p ∈ polsG,r12_Parse t=some (p,0,0):=by
 intro t ht
 unfold policyG at ht
 rcases List.mem_cons.1 ht with e | ht
 ·exact ⟨polS5,.tail _ (.head _),e ▸ refPol0⟩
 rcases List.mem_cons.1 ht with e | ht
 ·exact ⟨polS8,.tail _ (.tail _ (.head _)),e ▸ refPol1⟩
 rcases List.mem_cons.1 ht with e | ht
 ·exact ⟨polS11,.tail _ (.tail _ (.tail _ (.head _))),e ▸ refPol2⟩
 rcases List.mem_cons.1 ht with e | ht
 ·exact ⟨polS23,.tail _ (.tail _ (.tail _ (.tail _ (.head _)))),e ▸ refPol3⟩
 rcases List.mem_cons.1 ht with e | ht
 ·exact ⟨polS25,.tail _ (.tail _ (.tail _ (.tail _ (.tail _ (.head _))))),e ▸ refPol4⟩
 rcases List.mem_cons.1 ht with e | ht
 ·exact ⟨polS27,.tail _ (.tail _ (.tail _ (.tail _ (.tail _ (.tail _ (.head _)))))),e ▸ refPol5⟩
 rcases List.mem_cons.1 ht with e | ht
 ·exact ⟨polS5,.tail _ (.head _),e ▸ refPol6⟩
 rcases List.mem_cons.1 ht with e | ht
 ·exact ⟨polS31,.tail _ (.tail _ (.tail _ (.tail _ (.tail _ (.tail _ (.tail _ (.head _))))))),e ▸ refPol7⟩
 cases ht
set_option maxRecDepth 100000 in
theorem polsG_le_all:polsG.all (fun p=>decide (p.rules.length≤100)&&decide (p.guards.length≤100)&&decide (p.groups.length≤100)&&p.groups.all (fun g=>decide (g.members.length≤100)))=true:=by kernel_rfl
theorem polsG_le (p:Policy) (h:p ∈ polsG):p.rules.length≤100∧p.guards.length≤100∧p.groups.length≤100∧∀ g ∈ p.groups,g.members.length≤100:=by
 have:=List.all_eq_true.1 polsG_le_all p h
 simp only [Bool.and_eq_true,decide_eq_true_eq,List.all_eq_true] at this
 exact ⟨this.1.1.1,this.1.1.2,this.1.2,this.2⟩
def groupsUpTo (x:Option (List ByteArray)):Bool:=match x with | some G=>decide (G.length≤100) | none=>false
theorem groupsUpTo_t {x:Option (List ByteArray)} (h:groupsUpTo x=true):∃ G,x=some G∧G.length≤100:=by
 cases x with
 | none=>cases h
 | some G=>exact ⟨G,rfl,of_decide_eq_true h⟩
set_option maxRecDepth 100000 in
theorem groups_all:polsG.all (fun p=>usersG.all fun u=>groupsUpTo (r13_Groups p u))=true:=by kernel_rfl
theorem groups_e (p:Policy) (hp:p ∈ polsG) (u:ByteArray) (hu:u ∈ usersG):∃ G,r13_Groups p u=some G∧G.length≤100:=
 groupsUpTo_t (List.all_eq_true.1 (List.all_eq_true.1 groups_all p hp) u hu)
theorem page2_t (s:State) (t:Title) (hl:s.pages.length≤1000000):Tot (r27_Page s t) fun r=>(r=(⟨⟨0,⟨#[]⟩⟩,[]⟩,false)∧∀ p ∈ s.pages,p.title≠t)∨(r.2=true∧r.1 ∈ s.pages∧r.1.title=t):=by
 unfold r27_Page
 refine tot_bind (find_t s.pages t hl) fun r hr=>?_
 rcases hr with ⟨rfl,h⟩ | ⟨n,p,rfl,h1,h2⟩
 ·exact tot_ifD (fun _=>tot_some (.inl ⟨rfl,h⟩)) fun c=>absurd (by omega) c
 ·refine tot_ifD (fun c=>absurd c (by omega)) fun _=>?_
  have:=(List.getElem?_eq_some_iff.1 h1).1
  refine tot_atI (by omega) (by omega) fun e he hg=>tot_some (.inr ⟨rfl,he,?_⟩)
  rw [Int.toNat_natCast,h1] at hg
  injection hg with hg
  rw [← hg]
  exact h2
theorem policyOf_made {s:State} {m:Int} (h:Made s m):∃ P ∈ polsG,r29_PolicyOf s=some P:=by
 obtain ⟨t,ht,hv⟩:=h.ex
 obtain ⟨P,hP,he⟩:=policy_in t ht
 have hh:Tot (r29_PolicyOf s) (· ∈ polsG):=by
  unfold r29_PolicyOf
  refine tot_bindE (v:=policyT) rfl ?_
  refine tot_bind (Q:=fun r=>r.2=false∨r.1=t) ?_ fun r hr=>?_
  ·unfold r27_Text
   refine tot_bind (page2_t s policyT (by have:=hv.plen;omega)) fun r hr=>?_
   rcases hr with ⟨rfl,_⟩ | ⟨h1,h2,h3⟩
   ·exact tot_bindE (v:=⟨0,⟨#[]⟩,⟨#[]⟩,⟨#[]⟩,0,0⟩) rfl (tot_some (.inl rfl))
   ·have hs:=(hv.pages _ h2).hist
    have a1:=hs.len1
    have a2:=hs.len2
    obtain ⟨c,hc1,hc2⟩:=current_e r.1 a1 (by omega)
    refine tot_bindE hc2 (tot_some (.inr ?_))
    have:=hv.rule r.1 h2 h3
    unfold textOf at this
    rw [hc1] at this
    exact this
  ·rcases hr with h | h
   ·exact tot_ifT (by rw [h];rfl) (tot_some polsG0)
   ·refine tot_if (fun _=>tot_some polsG0) fun _=>?_
    rw [h]
    refine tot_bindE he ?_
    exact tot_ifF rfl (tot_some hP)
 obtain ⟨v,h1,h2⟩:=hh
 exact ⟨v,h2,h1⟩
def curOf (p:Stored):Revision:=p.history.getLast?.getD ⟨0,⟨#[]⟩,⟨#[]⟩,⟨#[]⟩,0,0⟩
def pageOf (p:Stored):Page:=⟨p.title,(curOf p).text,(curOf p).number⟩
def viewPg (P:Policy) (G:List ByteArray) (l:List Stored):List Page:=(l.filter fun p=>mayB P G 1 p.title).map pageOf
def viewOf (P:Policy) (G:List ByteArray) (s:State):View:=⟨viewPg P G s.pages,P,G,s.clock,[]⟩
theorem viewPg_snoc {P:Policy} {G:List ByteArray} {l:List Stored} {n:Nat} {e:Stored} (h:l[n]? = some e):viewPg P G (l.take (n+1))=viewPg P G (l.take n)++(if mayB P G 1 e.title=true then [pageOf e] else []):=by
 unfold viewPg
 rw [List.take_add_one,h,List.filter_append,List.map_append]
 congr 1
 by_cases hm:mayB P G 1 e.title=true<;>simp [hm]
theorem viewPg_len {P:Policy} {G:List ByteArray} {l:List Stored}:(viewPg P G l).length≤l.length:=by
 unfold viewPg
 rw [List.length_map]
 exact List.length_filter_le _ _
theorem viewPg_take {P:Policy} {G:List ByteArray} {l:List Stored} {n:Nat}:(viewPg P G (l.take n)).length≤l.length:=Nat.le_trans viewPg_len (by rw [List.length_take];omega)
theorem current_is (p:Stored) (h0:1≤p.history.length) (hl:p.history.length≤1000000):r27_Current p=some (curOf p):=by
 obtain ⟨r,h1,h2⟩:=current_e p h0 hl
 rw [h2]
 unfold curOf
 rw [h1]
 rfl
theorem r31_view_e {s:State} {u:ByteArray} {P:Policy} {G:List ByteArray} (hP:r29_PolicyOf s=some P) (hG:r13_Groups P u=some G) (hR:P.rules.length≤1000000) (hl:s.pages.length≤1000000) (hh:∀ p ∈ s.pages,1≤p.history.length∧p.history.length≤1000000):r31_View s u=some (viewOf P G s):=by
 refine tot_eq ?_
 unfold r31_View
 refine tot_bindE hP ?_
 refine tot_bindE hG ?_
 refine tot_loop (fun a:Int×List Page=>(0≤a.1∧a.1≤(s.pages.length:Int))∧a.2=viewPg P G (s.pages.take a.1.toNat)) (fun a=>((s.pages.length:Int) - a.1).toNat) ⟨⟨Int.le_refl _,by dsimp only;omega⟩,rfl⟩ (by dsimp only;omega) ?_
 rintro ⟨i,l⟩ rec ⟨⟨h0,h1⟩,h2⟩ ih
 dsimp only at h0 h1 h2
 subst h2
 refine tot_ifD (fun hlt=>?_) fun hlt=>?_
 ·refine tot_let (fun k=>Tot (k (viewPg P G (s.pages.take (i.toNat+1)))) fun r=>r=viewOf P G s) ?_ fun k hk=>?_
  ·rw [w64_of (by omega) (by omega)]
   exact ih _ ⟨⟨by dsimp only;omega,by dsimp only;omega⟩,by dsimp only;rw [show (i+1).toNat=i.toNat+1 by omega]⟩ (by first | omega | (dsimp only;omega))
  ·refine tot_atI h0 hlt fun e he hg=>?_
   rw [viewPg_snoc hg] at hk
   refine tot_bindE (v:=mayB P G 1 e.title) (by unfold r13_May;rw [if_pos hR]) ?_
   by_cases hm:mayB P G 1 e.title=true
   ·rw [if_pos hm] at hk
    refine tot_ifF (by rw [hm];rfl) ?_
    refine tot_bindE (current_is e (hh e he).1 (hh e he).2) ?_
    exact tot_appL 1000001 (by have:=viewPg_take (P:=P) (G:=G) (l:=s.pages) (n:=i.toNat);simp only [List.length_cons,List.length_nil];omega) (by omega) (by omega) hk
   ·rw [if_neg hm,List.append_nil] at hk
    exact tot_ifT (by rw [Bool.not_eq_true] at hm;rw [hm];rfl) hk
 ·refine tot_some ?_
  rw [show i.toNat=s.pages.length by omega,List.take_length]
  rfl
structure VM (v:View):Prop where
 pages:v.pages.length≤200
 text:∀ p ∈ v.pages,p.text.size≤8192
 policy:v.policy ∈ polsG
 groups:v.groups.length≤100
 fixed:v.fixed = []
theorem made_hist {s:State} {m:Int} (h:Made s m):∀ p ∈ s.pages,1≤p.history.length∧p.history.length≤1000000:=by
 obtain ⟨t,ht,hv⟩:=h.ex
 intro p hp
 have hs:=(hv.pages p hp).hist
 have a1:=hs.len1
 have a2:=hs.len2
 exact ⟨a1,by omega⟩
theorem cur_mem {p:Stored} (h:1≤p.history.length):curOf p ∈ p.history:=by
 unfold curOf
 obtain ⟨r,hr⟩:∃ r,p.history[p.history.length - 1]? = some r:=⟨_,List.getElem?_eq_getElem (by omega)⟩
 rw [List.getLast?_eq_getElem?,hr]
 exact List.mem_of_getElem? hr
theorem viewOf_vm {s:State} {m:Int} {P:Policy} {G:List ByteArray} (h:Made s m) (hP:P ∈ polsG) (hG:G.length≤100):VM (viewOf P G s):=by
 obtain ⟨t,ht,hv⟩:=h.ex
 refine ⟨Nat.le_trans viewPg_len hv.plen,fun p hp=>?_,hP,hG,rfl⟩
 unfold viewOf viewPg at hp
 dsimp only at hp
 obtain ⟨q,hq,rfl⟩:=List.mem_map.1 hp
 have hq:=(List.mem_filter.1 hq).1
 have hh:=(hv.pages q hq).hist
 exact (hh.all _ (cur_mem hh.len1)).text
theorem view_made {s:State} {m:Int} {u:ByteArray} (h:Made s m) (hu:u ∈ usersG):∃ P G,P ∈ polsG∧r29_PolicyOf s=some P∧r13_Groups P u=some G∧r31_View s u=some (viewOf P G s)∧VM (viewOf P G s):=by
 obtain ⟨P,hP,e1⟩:=policyOf_made h
 obtain ⟨G,e2,hG⟩:=groups_e P hP u hu
 have hR:=(polsG_le P hP).1
 refine ⟨P,G,hP,e1,e2,r31_view_e e1 e2 (by omega) ?_ (made_hist h),viewOf_vm h hP hG⟩
 obtain ⟨t,ht,hv⟩:=h.ex
 have:=hv.plen
 omega
theorem altered_t {v:View} (h:VM v) (how x:Int):Tot (w31_altered v how x) fun _=>True:=by
 have hp:=h.pages
 have hg:=h.groups
 obtain ⟨hr,hu,-,-⟩:=polsG_le _ h.policy
 have hf:v.fixed.length=0:=by rw [h.fixed];rfl
 unfold w31_altered
 refine tot_appL 200 (by simpa using hp) (by omega) (by omega) ?_
 rw [List.nil_append]
 refine tot_bind (round_t x (if 1 > (v.pages.length:Int) then 1 else (v.pages.length:Int)) (by split<;>omega) (by split<;>omega)) fun r hr2=>?_
 refine tot_bind (round_t how 8 (by omega) (by omega)) fun w hw=>?_
 have hr3:0≤r∧r≤(v.pages.length:Int):=by
  obtain ⟨h1,h2⟩:=hr2
  split at h2<;>omega
 refine tot_let (fun k=>∀ a b c d e f,Tot (k a b c d e f) fun _=>True) (fun _ _ _ _ _ _=>tot_some trivial) fun k hk=>?_
 refine tot_ifD (fun _=>?_) fun _=>?_
 ·refine tot_ifD (fun hlt=>?_) fun _=>hk _ _ _ _ _ _
  refine tot_atI hr3.1 hlt fun e he hg=>?_
  refine tot_bind (round_t x 2 (by omega) (by omega)) fun q hq=>?_
  refine tot_atI hq.1 hq.2 fun c hc hgc=>?_
  have hcs:c.size≤1:=by
   simp at hc
   rcases hc with rfl | rfl<;>decide
  refine tot_catS (by have:=h.text e he;omega) fun _=>?_
  exact tot_atI hr3.1 hlt fun e he hg=>hk _ _ _ _ _ _
 refine tot_ifD (fun _=>?_) fun _=>?_
 ·refine tot_ifD (fun hlt=>?_) fun _=>hk _ _ _ _ _ _
  refine tot_atI hr3.1 hlt fun e he hg=>?_
  refine tot_bind (round_t x 2 (by omega) (by omega)) fun q hq=>?_
  exact tot_atI hr3.1 hlt fun e he hg=>hk _ _ _ _ _ _
 refine tot_ifD (fun _=>?_) fun _=>?_
 ·exact tot_subL (by omega) hr3.1 hr3.2 fun m _ _=>hk _ _ _ _ _ _
 refine tot_ifD (fun _=>?_) fun _=>?_
 ·exact tot_bind (round_t x 2 (by omega) (by omega)) fun q hq=>hk _ _ _ _ _ _
 refine tot_ifD (fun _=>?_) fun _=>?_
 ·refine tot_appL 200 (by simp only [List.length_nil];omega) (by omega) (by omega) ?_
  refine tot_bind (round_t x 2 (by omega) (by omega)) fun q hq=>?_
  refine tot_atI hq.1 hq.2 fun c hc hgc=>?_
  exact tot_appL 200 (by simp only [List.nil_append,List.length_cons,List.length_nil];omega) (by omega) (by omega) (hk _ _ _ _ _ _)
 refine tot_ifD (fun _=>?_) fun _=>?_
 ·refine tot_appL 200 (by simp only [List.length_nil];omega) (by omega) (by omega) ?_
  refine tot_bind (round_t x 5 (by omega) (by omega)) fun q hq=>?_
  exact tot_appL 200 (by simp only [List.nil_append,List.length_cons,List.length_nil];omega) (by omega) (by omega) (hk _ _ _ _ _ _)
 refine tot_ifD (fun _=>?_) fun _=>?_
 ·refine tot_appL 200 (by simp only [List.length_nil];omega) (by omega) (by omega) ?_
  rw [List.nil_append]
  refine tot_ifD (fun hlt=>?_) fun _=>hk _ _ _ _ _ _
  refine tot_bind (round_t x _ hlt (by omega)) fun q hq=>?_
  refine tot_quoI (by omega) ?_
  refine tot_bind (round_t _ 2 (by omega) (by omega)) fun o ho=>?_
  exact tot_atI hq.1 hq.2 fun e he hg=>hk _ _ _ _ _ _
 refine tot_appL 200 (by simp only [List.length_nil];omega) (by omega) (by omega) ?_
 exact tot_appL 200 (by simp only [List.nil_append,List.length_cons,List.length_nil];omega) (by omega) (by omega) (hk _ _ _ _ _ _)
end Go.Proofs.YtphibahplgmgfaaGreatDoor
namespace Go.Proofs.YtphibahplgmgfaaGreatDoor
open VL
set_option linter.unusedVariables false
set_option maxRecDepth 100000 in
theorem awake_e:w31_awake=some true:=by
 unfold w31_awake
 kernel_rfl
theorem vm_fits {v:View} (h:VM v):v.fits:=by
 obtain ⟨hr,hu,hg,hm⟩:=polsG_le _ h.policy
 have:=h.pages
 have:=h.groups
 refine ⟨by omega,by omega,by rw [h.fixed];exact Nat.zero_le _,by omega,by omega,by omega,fun g hgm=>?_⟩
 have:=hm g hgm
 omega
theorem law_same (a b:View) (l m:List Int) (who how x:Int) (ha:a.fits) (hl:l.length≤9223372036854775807) (hm:m.length≤9223372036854775807):w31_ProjectSame a b l m who how x=some true:=by
 refine tot_eq ?_
 unfold w31_ProjectSame
 refine tot_let (fun k=>∀ t:Bool,Tot (k t) fun r=>r=true) ?_ fun k hk=>?_
 ·intro t
  refine tot_if (fun _=>tot_bindE awake_e (tot_some rfl)) fun _=>?_
  refine tot_bindE (v:=usersG) rfl ?_
  refine tot_bind (round_t who 4 (by omega) (by omega)) fun w hw=>?_
  refine tot_atI hw.1 hw.2 fun u hu hgu=>?_
  refine tot_bind (state_t l hl) fun s1 hs1=>?_
  obtain ⟨P1,G1,hP1,e1,e2,e3,v1⟩:=view_made hs1 hu
  refine tot_bindE e3 ?_
  refine tot_bind (state_t m hm) fun s2 hs2=>?_
  obtain ⟨P2,G2,hP2,e4,e5,e6,v2⟩:=view_made hs2 hu
  refine tot_bindE e6 ?_
  refine tot_bind (altered_t v1 how x) fun y _=>?_
  refine tot_let0 ?_
  refine tot_bindE awake_e ?_
  refine tot_ifT rfl ?_
  refine tot_bindE (project_same a b (.inl ha)) ?_
  refine tot_bindE (gsame_view a b (.inl ha)) ?_
  refine tot_ifT (by simp) ?_
  refine tot_bindE (project_same a a (.inl ha)) ?_
  refine tot_ifT (by simp) ?_
  have f1:=vm_fits v1
  refine tot_bindE (project_same _ _ (.inl f1)) ?_
  refine tot_bindE (gsame_view _ _ (.inl f1)) ?_
  refine tot_ifT (by simp) ?_
  refine tot_bindE (project_same _ _ (.inl f1)) ?_
  refine tot_bindE (gsame_view _ _ (.inl f1)) ?_
  refine tot_ifT (by simp) ?_
  refine tot_bindE (project_same _ _ (.inr f1)) ?_
  refine tot_bindE (gsame_view _ _ (.inl f1)) ?_
  refine tot_some ?_
  rw [beq_iff_eq]
  exact decide_eq_decide.2 eq_comm
 ·refine tot_bind (small_t a) fun r _=>?_
  refine tot_if (fun _=>hk _) fun _=>?_
  exact tot_bind (small_t b) fun r _=>hk _
end Go.Proofs.YtphibahplgmgfaaGreatDoor
namespace Go.Proofs.YtphibahplgmgfaaGreatDoor
open Go.RowKit Go.ChangeShapes Go.WideShapes Go.Deep
theorem filterMap_all {α:Type} (f:Nat→Option α):∀ n,(∀ i,i<n→∃ t,f i=some t)→((List.range n).filterMap f).length=n∧∀ i,i<n→((List.range n).filterMap f)[i]? = f i
 | 0,_=>⟨rfl,fun i h=>absurd h (by omega)⟩
 | n+1,h=>by
   obtain ⟨h1,h2⟩:=filterMap_all f n fun i hi=>h i (by omega)
   obtain ⟨t,ht⟩:=h n (by omega)
   rw [List.range_succ,List.filterMap_append]
   have e:List.filterMap f [n] = [t]:=by simp [ht]
   rw [e]
   refine ⟨by simp [h1],fun i hi=>?_⟩
   rcases Nat.lt_or_ge i n with hl | hl
   ·rw [List.getElem?_append_left (by omega)];exact h2 i hl
   ·obtain rfl:i=n:=by omega
    rw [List.getElem?_append_right (by omega),h1,ht];simp
section
variable {H:Type} {enc:TypeId×Value→H} {P:Program} {W:World}
def Rd (enc:TypeId×Value→H) (P:Program) (W:World) (T:TypeId) (α:Type) [Enc α]:Prop:=
 ∀ fuel cs x,DataW.trod enc P W 0 (fun _=>true) true fuel T cs=some x→∃ t:α,Enc.RT W t cs
theorem rd_int {T:TypeId} (hT:P.underlying T=some (.int .i64)):Rd enc P W T Int:=fun _ _ _ h=>by
 obtain ⟨n,hc,_⟩:=DataW.trod_int hT h
 exact ⟨n,hc⟩
theorem rd_bool {T:TypeId} (hT:P.underlying T=some .bool):Rd enc P W T Bool:=fun _ _ _ h=>by
 obtain ⟨n,hc,_⟩:=DataW.trod_bool hT h
 exact ⟨n,hc⟩
theorem rd_string {T:TypeId} (hT:P.underlying T=some .string):Rd enc P W T ByteArray:=fun _ _ _ h=>by
 obtain ⟨n,hc,_⟩:=DataW.trod_string hT h
 exact ⟨n,hc⟩
theorem rd_slice {S E:TypeId} {α:Type} [Enc α] (hS:P.underlying S=some (.slice E)) (hk:P.cellsOf E=Enc.k α) (h0:0<Enc.k α) (hE:Rd enc P W E α):Rd enc P W S (List α):=fun fuel cs x h=>by
 rcases open_slice hS h with ⟨hc,_⟩ | ⟨a,len,cap,m,n,D,Pl,hc,_,hl,hm,hmm,_,hel⟩
 ·exact ⟨[],none,0,0,hc,SlR.nil W⟩
 ·have hm':m=cap:=by simpa using hmm
  have hx:∀ i,∃ (cs':List Value) (t:Option α),i<len→∃ t',t=some t'∧Enc.RT W t' cs'∧∀ j v,cs'[j]? = some v→W.cell? (a.add (i * P.cellsOf E+j))=some v:=fun i=>by
   by_cases hi:i<len
   ·obtain ⟨cs',h1,h2⟩:=hel i (by omega)
    obtain ⟨t,ht⟩:=hE _ _ _ h2
    obtain ⟨_,hlen,hcell⟩:=World.cells?_some h1
    refine ⟨cs',some t,fun _=>⟨t,rfl,ht,fun j v hj=>?_⟩⟩
    have hjl:j<P.cellsOf E:=by rw [← hlen];exact (List.getElem?_eq_some_iff.1 hj).1
    rw [← Go.Deep.add_add,hcell j hjl,hj]
   ·exact ⟨[],none,fun h=>absurd h hi⟩
  obtain ⟨css,hx⟩:=Classical.axiomOfChoice hx
  obtain ⟨ts,hx⟩:=Classical.axiomOfChoice hx
  refine ⟨(List.range len).filterMap ts,some a,len,cap,hc,?_⟩
  have hlen:((List.range len).filterMap ts).length=len∧∀ i,i<len→((List.range len).filterMap ts)[i]? = ts i:=filterMap_all ts len fun i hi=>by
   obtain ⟨t,ht,_⟩:=hx i hi
   exact ⟨t,ht⟩
  refine ⟨hlen.1.symm,hl,by unfold maxLen at hm;exact hm,fun hpos=>?_⟩
  obtain ⟨t0,_,hR0,hc0⟩:=hx 0 hpos
  have hl0:=Enc.len hR0
  have hcell0:=hc0 0 ((css 0)[0]'(by omega)) (List.getElem?_eq_getElem (by omega))
  obtain ⟨b,off,spot⟩:=a
  have hspot:spot=none:=by
   simp only [Nat.zero_mul,Nat.add_zero,Addr.add,if_true] at hcell0
   cases spot with
   | none=>rfl
   | some s=>
     exfalso
     unfold World.cell? at hcell0
     split at hcell0<;>simp at hcell0
  subst hspot
  refine ⟨b,off,css,rfl,trivial,?_,fun i x hi=>?_⟩
  ·simp only [Nat.zero_mul,Nat.add_zero,Addr.add,if_true] at hcell0
   exact cell_lt hcell0
  ·have hil:i<len:=by rw [← hlen.1];exact (List.getElem?_eq_some_iff.1 hi).1
   obtain ⟨t,ht,hR,hcell⟩:=hx i hil
   rw [hlen.2 i hil,ht] at hi
   obtain rfl:t=x:=by simpa using hi
   refine ⟨hR,fun j v hj=>?_⟩
   have:=hcell j v hj
   rw [hk] at this
   unfold Addr.add at this
   split at this
   ·rename_i h0;rw [Nat.add_assoc,h0];exact this
   ·rw [Nat.add_assoc];exact this
theorem rd_field {T:TypeId} {fs:Array Field} {fuel:Nat} {cs:List Value} {x:DataW H×List MemPlace} {α:Type} [Enc α] (hT:P.underlying T=some (.struct fs))
  (h:DataW.trod enc P W 0 (fun _=>true) true fuel T cs=some x) (j o k:Nat) (T':TypeId) (hj:(fs[j]?).map (fun f=>(f.offset,f.type))=some (o,T')) (hk:P.cellsOf T'=k) (hR:Rd enc P W T' α):∃ t:α,Enc.RT W t ((cs.drop o).take k):=by
 obtain ⟨xs,n,_,_,hl,hlen,hf⟩:=DataW.trod_struct hT h
 cases hfj:fs[j]? with
 | none=>rw [hfj] at hj;cases hj
 | some f=>
   rw [hfj] at hj
   simp only [Option.map_some,Option.some.injEq,Prod.mk.injEq] at hj
   obtain ⟨rfl,rfl⟩:=hj
   subst hk
   have h1:=hf j f hfj
   have hjl:j<xs.length:=by rw [hlen];exact (Array.getElem?_eq_some_iff.1 hfj).1
   rw [List.getElem?_eq_getElem hjl] at h1
   exact hR _ _ _ h1
theorem list2 {α:Type}:∀ {l:List α},l.length=2→∃ a b,l = [a,b]
 | [a,b],_=>⟨a,b,rfl⟩
theorem list3 {α:Type}:∀ {l:List α},l.length=3→∃ a b c,l = [a,b,c]
 | [a,b,c],_=>⟨a,b,c,rfl⟩
theorem list4 {α:Type}:∀ {l:List α},l.length=4→∃ a b c d,l = [a,b,c,d]
 | [a,b,c,d],_=>⟨a,b,c,d,rfl⟩
theorem list5 {α:Type}:∀ {l:List α},l.length=5→∃ a b c d e,l = [a,b,c,d,e]
 | [a,b,c,d,e],_=>⟨a,b,c,d,e,rfl⟩
theorem list6 {α:Type}:∀ {l:List α},l.length=6→∃ a b c d e f,l = [a,b,c,d,e,f]
 | [a,b,c,d,e,f],_=>⟨a,b,c,d,e,f,rfl⟩
theorem list7 {α:Type}:∀ {l:List α},l.length=7→∃ a b c d e f g,l = [a,b,c,d,e,f,g]
 | [a,b,c,d,e,f,g],_=>⟨a,b,c,d,e,f,g,rfl⟩
theorem rd_len {T:TypeId} {fs:Array Field} {fuel:Nat} {cs:List Value} {x:DataW H×List MemPlace} (hT:P.underlying T=some (.struct fs))
  (h:DataW.trod enc P W 0 (fun _=>true) true fuel T cs=some x):cs.length=P.cellsOf T:=by
 obtain ⟨xs,n,_,_,hl,_⟩:=DataW.trod_struct hT h
 exact hl
theorem rd_value {T:TypeId} {fs:Array Field} {v:Value} {d:DataW H} {p:List MemPlace} {α:Type} [Enc α] {b0:Nat} (hT:P.underlying T=some (.struct fs)) (hv:Value.okWide P W .any b0 T v)
  (h:DataW.Trod enc P W 0 (fun _=>true) true T v d p) (hR:Rd enc P W T α):∃ (t:α) (cs:List Value),v = .agg cs.toArray∧Enc.RT W t cs:=by
 obtain ⟨cs,rfl,_⟩:=okWide_struct hT hv
 obtain ⟨fuel,hf⟩:=h
 obtain ⟨t,ht⟩:=hR _ _ _ hf
 exact ⟨t,cs.toList,by simp,ht⟩
end
end Go.Proofs.YtphibahplgmgfaaGreatDoor
namespace Go.Proofs.YtphibahplgmgfaaGreatDoor
open Go.RowKit Go.ChangeShapes Go.WideShapes Go.Deep
theorem cellsInt:Tryz.prog.cellsOf 3=1:=by kernel_rfl
theorem cellsBool:Tryz.prog.cellsOf 4=1:=by kernel_rfl
theorem cellsString:Tryz.prog.cellsOf 9=1:=by kernel_rfl
theorem cellsTitle:Tryz.prog.cellsOf 29=2:=by kernel_rfl
theorem cellsKey:Tryz.prog.cellsOf 95=4:=by kernel_rfl
theorem cellsAnswer:Tryz.prog.cellsOf 97=3:=by kernel_rfl
theorem cellsAsked:Tryz.prog.cellsOf 99=7:=by kernel_rfl
theorem cellsScope:Tryz.prog.cellsOf 103=3:=by kernel_rfl
theorem cellsRule:Tryz.prog.cellsOf 105=6:=by kernel_rfl
theorem cellsGuard:Tryz.prog.cellsOf 107=5:=by kernel_rfl
theorem cellsGroup:Tryz.prog.cellsOf 119=2:=by kernel_rfl
theorem cellsPolicy:Tryz.prog.cellsOf 45=3:=by kernel_rfl
theorem cellsPage:Tryz.prog.cellsOf 69=4:=by kernel_rfl
theorem cellsView:Tryz.prog.cellsOf 48=7:=by kernel_rfl
theorem cellsLString:Tryz.prog.cellsOf 34=1:=by kernel_rfl
theorem cellsLGroup:Tryz.prog.cellsOf 41=1:=by kernel_rfl
theorem cellsLRule:Tryz.prog.cellsOf 42=1:=by kernel_rfl
theorem cellsLGuard:Tryz.prog.cellsOf 43=1:=by kernel_rfl
theorem cellsLPage:Tryz.prog.cellsOf 40=1:=by kernel_rfl
theorem cellsLAsked:Tryz.prog.cellsOf 46=1:=by kernel_rfl
section
variable {H:Type} {enc:TypeId×Value→H} {W:World}
theorem rdInt:Rd enc Tryz.prog W 3 Int:=rd_int Tryz.underlying3
theorem rdBool:Rd enc Tryz.prog W 4 Bool:=rd_bool Tryz.underlying4
theorem rdString:Rd enc Tryz.prog W 9 ByteArray:=rd_string Tryz.underlying9
set_option maxRecDepth 100000 in
theorem rdTitle:Rd enc Tryz.prog W 29 Title:=fun _ cs _ h=>by
 have hl:=rd_len Tryz.underlying29 h
 obtain ⟨t0,e0⟩:=rd_field Tryz.underlying29 h 0 0 1 _ rfl cellsInt rdInt
 obtain ⟨t1,e1⟩:=rd_field Tryz.underlying29 h 1 1 1 _ rfl cellsString rdString
 rw [cellsTitle] at hl
 obtain ⟨x0,x1,rfl⟩:=list2 hl
 cases (show [x0] = [_] from e0)
 cases (show [x1] = [_] from e1)
 exact ⟨⟨t0,t1⟩,rfl⟩
set_option maxRecDepth 100000 in
theorem rdKey:Rd enc Tryz.prog W 95 Key:=fun _ cs _ h=>by
 have hl:=rd_len Tryz.underlying95 h
 obtain ⟨t0,e0⟩:=rd_field Tryz.underlying95 h 0 0 1 _ rfl cellsInt rdInt
 obtain ⟨t1,e1⟩:=rd_field Tryz.underlying95 h 1 1 2 _ rfl cellsTitle rdTitle
 obtain ⟨t2,e2⟩:=rd_field Tryz.underlying95 h 2 3 1 _ rfl cellsInt rdInt
 rw [cellsKey] at hl
 obtain ⟨x0,x1,x2,x3,rfl⟩:=list4 hl
 cases (show [x0] = [_] from e0)
 cases (show [x1,x2] = [_,_] from e1)
 cases (show [x3] = [_] from e2)
 exact ⟨⟨t0,t1,t2⟩,rfl⟩
set_option maxRecDepth 100000 in
theorem rdAnswer:Rd enc Tryz.prog W 97 Answer:=fun _ cs _ h=>by
 have hl:=rd_len Tryz.underlying97 h
 obtain ⟨t0,e0⟩:=rd_field Tryz.underlying97 h 0 0 1 _ rfl cellsBool rdBool
 obtain ⟨t1,e1⟩:=rd_field Tryz.underlying97 h 1 1 1 _ rfl cellsString rdString
 obtain ⟨t2,e2⟩:=rd_field Tryz.underlying97 h 2 2 1 _ rfl cellsInt rdInt
 rw [cellsAnswer] at hl
 obtain ⟨x0,x1,x2,rfl⟩:=list3 hl
 cases (show [x0] = [_] from e0)
 cases (show [x1] = [_] from e1)
 cases (show [x2] = [_] from e2)
 exact ⟨⟨t0,t1,t2⟩,rfl⟩
set_option maxRecDepth 100000 in
theorem rdAsked:Rd enc Tryz.prog W 99 Asked:=fun _ cs _ h=>by
 have hl:=rd_len Tryz.underlying99 h
 obtain ⟨t0,e0⟩:=rd_field Tryz.underlying99 h 0 0 4 _ rfl cellsKey rdKey
 obtain ⟨t1,e1⟩:=rd_field Tryz.underlying99 h 1 4 3 _ rfl cellsAnswer rdAnswer
 rw [cellsAsked] at hl
 obtain ⟨x0,x1,x2,x3,x4,x5,x6,rfl⟩:=list7 hl
 cases (show [x0,x1,x2,x3] = [_,_,_,_] from e0)
 cases (show [x4,x5,x6] = [_,_,_] from e1)
 exact ⟨⟨t0,t1⟩,rfl⟩
set_option maxRecDepth 100000 in
theorem rdScope:Rd enc Tryz.prog W 103 Scope:=fun _ cs _ h=>by
 have hl:=rd_len Tryz.underlying103 h
 obtain ⟨t0,e0⟩:=rd_field Tryz.underlying103 h 0 0 1 _ rfl cellsInt rdInt
 obtain ⟨t1,e1⟩:=rd_field Tryz.underlying103 h 1 1 2 _ rfl cellsTitle rdTitle
 rw [cellsScope] at hl
 obtain ⟨x0,x1,x2,rfl⟩:=list3 hl
 cases (show [x0] = [_] from e0)
 cases (show [x1,x2] = [_,_] from e1)
 exact ⟨⟨t0,t1⟩,rfl⟩
set_option maxRecDepth 100000 in
theorem rdRule:Rd enc Tryz.prog W 105 Rule:=fun _ cs _ h=>by
 have hl:=rd_len Tryz.underlying105 h
 obtain ⟨t0,e0⟩:=rd_field Tryz.underlying105 h 0 0 1 _ rfl cellsBool rdBool
 obtain ⟨t1,e1⟩:=rd_field Tryz.underlying105 h 1 1 1 _ rfl cellsInt rdInt
 obtain ⟨t2,e2⟩:=rd_field Tryz.underlying105 h 2 2 1 _ rfl cellsString rdString
 obtain ⟨t3,e3⟩:=rd_field Tryz.underlying105 h 3 3 3 _ rfl cellsScope rdScope
 rw [cellsRule] at hl
 obtain ⟨x0,x1,x2,x3,x4,x5,rfl⟩:=list6 hl
 cases (show [x0] = [_] from e0)
 cases (show [x1] = [_] from e1)
 cases (show [x2] = [_] from e2)
 cases (show [x3,x4,x5] = [_,_,_] from e3)
 exact ⟨⟨t0,t1,t2,t3⟩,rfl⟩
set_option maxRecDepth 100000 in
theorem rdGuard:Rd enc Tryz.prog W 107 Guard:=fun _ cs _ h=>by
 have hl:=rd_len Tryz.underlying107 h
 obtain ⟨t0,e0⟩:=rd_field Tryz.underlying107 h 0 0 1 _ rfl cellsBool rdBool
 obtain ⟨t1,e1⟩:=rd_field Tryz.underlying107 h 1 1 1 _ rfl cellsString rdString
 obtain ⟨t2,e2⟩:=rd_field Tryz.underlying107 h 2 2 2 _ rfl cellsTitle rdTitle
 obtain ⟨t3,e3⟩:=rd_field Tryz.underlying107 h 3 4 1 _ rfl cellsString rdString
 rw [cellsGuard] at hl
 obtain ⟨x0,x1,x2,x3,x4,rfl⟩:=list5 hl
 cases (show [x0] = [_] from e0)
 cases (show [x1] = [_] from e1)
 cases (show [x2,x3] = [_,_] from e2)
 cases (show [x4] = [_] from e3)
 exact ⟨⟨t0,t1,t2,t3⟩,rfl⟩
theorem rdStrings:Rd enc Tryz.prog W 34 (List ByteArray):=rd_slice Tryz.underlying34 cellsString (by decide) rdString
set_option maxRecDepth 100000 in
theorem rdGroup:Rd enc Tryz.prog W 119 Group:=fun _ cs _ h=>by
 have hl:=rd_len Tryz.underlying119 h
 obtain ⟨t0,e0⟩:=rd_field Tryz.underlying119 h 0 0 1 _ rfl cellsString rdString
 obtain ⟨t1,e1⟩:=rd_field Tryz.underlying119 h 1 1 1 _ rfl cellsLString rdStrings
 rw [cellsGroup] at hl
 obtain ⟨x0,x1,rfl⟩:=list2 hl
 cases (show [x0] = [_] from e0)
 obtain ⟨A1_0,n1_0,c1_0,g1,s1_0⟩:=e1
 cases (show [x1] = [_] from g1)
 exact ⟨⟨t0,t1⟩,_,_,_,rfl,s1_0⟩
theorem rdGroups:Rd enc Tryz.prog W 41 (List Group):=rd_slice Tryz.underlying41 cellsGroup (by decide) rdGroup
theorem rdRules:Rd enc Tryz.prog W 42 (List Rule):=rd_slice Tryz.underlying42 cellsRule (by decide) rdRule
theorem rdGuards:Rd enc Tryz.prog W 43 (List Guard):=rd_slice Tryz.underlying43 cellsGuard (by decide) rdGuard
set_option maxRecDepth 100000 in
theorem rdPolicy:Rd enc Tryz.prog W 45 Policy:=fun _ cs _ h=>by
 have hl:=rd_len Tryz.underlying45 h
 obtain ⟨t0,e0⟩:=rd_field Tryz.underlying45 h 0 0 1 _ rfl cellsLGroup rdGroups
 obtain ⟨t1,e1⟩:=rd_field Tryz.underlying45 h 1 1 1 _ rfl cellsLRule rdRules
 obtain ⟨t2,e2⟩:=rd_field Tryz.underlying45 h 2 2 1 _ rfl cellsLGuard rdGuards
 rw [cellsPolicy] at hl
 obtain ⟨x0,x1,x2,rfl⟩:=list3 hl
 obtain ⟨A0_0,n0_0,c0_0,g0,s0_0⟩:=e0
 cases (show [x0] = [_] from g0)
 obtain ⟨A1_0,n1_0,c1_0,g1,s1_0⟩:=e1
 cases (show [x1] = [_] from g1)
 obtain ⟨A2_0,n2_0,c2_0,g2,s2_0⟩:=e2
 cases (show [x2] = [_] from g2)
 exact ⟨⟨t0,t1,t2⟩,_,_,_,_,_,_,_,_,_,rfl,s0_0,s1_0,s2_0⟩
set_option maxRecDepth 100000 in
theorem rdPage:Rd enc Tryz.prog W 69 Page:=fun _ cs _ h=>by
 have hl:=rd_len Tryz.underlying69 h
 obtain ⟨t0,e0⟩:=rd_field Tryz.underlying69 h 0 0 2 _ rfl cellsTitle rdTitle
 obtain ⟨t1,e1⟩:=rd_field Tryz.underlying69 h 1 2 1 _ rfl cellsString rdString
 obtain ⟨t2,e2⟩:=rd_field Tryz.underlying69 h 2 3 1 _ rfl cellsInt rdInt
 rw [cellsPage] at hl
 obtain ⟨x0,x1,x2,x3,rfl⟩:=list4 hl
 cases (show [x0,x1] = [_,_] from e0)
 cases (show [x2] = [_] from e1)
 cases (show [x3] = [_] from e2)
 exact ⟨⟨t0,t1,t2⟩,rfl⟩
theorem rdPages:Rd enc Tryz.prog W 40 (List Page):=rd_slice Tryz.underlying40 cellsPage (by decide) rdPage
theorem rdAskeds:Rd enc Tryz.prog W 46 (List Asked):=rd_slice Tryz.underlying46 cellsAsked (by decide) rdAsked
set_option maxRecDepth 100000 in
theorem rdView:Rd enc Tryz.prog W 48 View:=fun _ cs _ h=>by
 have hl:=rd_len Tryz.underlying48 h
 obtain ⟨t0,e0⟩:=rd_field Tryz.underlying48 h 0 0 1 _ rfl cellsLPage rdPages
 obtain ⟨t1,e1⟩:=rd_field Tryz.underlying48 h 1 1 3 _ rfl cellsPolicy rdPolicy
 obtain ⟨t2,e2⟩:=rd_field Tryz.underlying48 h 2 4 1 _ rfl cellsLString rdStrings
 obtain ⟨t3,e3⟩:=rd_field Tryz.underlying48 h 3 5 1 _ rfl cellsInt rdInt
 obtain ⟨t4,e4⟩:=rd_field Tryz.underlying48 h 4 6 1 _ rfl cellsLAsked rdAskeds
 rw [cellsView] at hl
 obtain ⟨x0,x1,x2,x3,x4,x5,x6,rfl⟩:=list7 hl
 obtain ⟨A0_0,n0_0,c0_0,g0,s0_0⟩:=e0
 cases (show [x0] = [_] from g0)
 obtain ⟨A1_0,n1_0,c1_0,A1_1,n1_1,c1_1,A1_2,n1_2,c1_2,g1,s1_0,s1_1,s1_2⟩:=e1
 cases (show [x1,x2,x3] = [_,_,_] from g1)
 obtain ⟨A2_0,n2_0,c2_0,g2,s2_0⟩:=e2
 cases (show [x4] = [_] from g2)
 cases (show [x5] = [_] from e3)
 obtain ⟨A4_0,n4_0,c4_0,g4,s4_0⟩:=e4
 cases (show [x6] = [_] from g4)
 exact ⟨⟨t0,t1,t2,t3,t4⟩,_,_,_,_,_,_,_,_,_,_,_,_,_,_,_,_,_,_,rfl,s0_0,s1_0,s1_1,s1_2,s2_0,s4_0⟩
end
end Go.Proofs.YtphibahplgmgfaaGreatDoor
namespace Go.Proofs.YtphibahplgmgfaaGreatDoor
open VL Go.RowKit
set_option linter.unusedVariables false
def RepL (x:Ctx) (ps:List PV) (vs:List Value):Prop:=ps.length=vs.length∧∀ (j:Nat) (p:PV) (v:Value),ps[j]? = some p→vs[j]? = some v→p.pure=true∧Rep x p v
theorem repL_nil (x:Ctx):RepL x [] []:=⟨rfl,fun j p v h _=>by simp at h⟩
theorem repL_cons {x:Ctx} {p:PV} {v:Value} {ps:List PV} {vs:List Value} (h:p.pure=true) (hr:Rep x p v) (ht:RepL x ps vs):RepL x (p::ps) (v::vs):=
 ⟨by simp [ht.1],fun j q u hq hu=>by
  cases j with
  | zero=>simp at hq hu;subst hq hu;exact ⟨h,hr⟩
  | succ j=>exact ht.2 j q u (by simpa using hq) (by simpa using hu)⟩
theorem rep_agg {x:Ctx} {ps:List PV} {vs:List Value} (h:RepL x ps vs):Rep x (.agg ps) (.agg vs.toArray):=by
 refine .agg ps _ (by simpa using h.1) fun i p v hp hv=>?_
 exact (h.2 i p v hp (by simpa using hv)).2
theorem Asked.repL (w:World) (x:Asked) (vs:List Value) (h:Enc.R (fun _=>True) w x vs):RepL (oldC w) x.cs vs:=by
 cases h
 exact repL_cons rfl (.int .i64 _) (repL_cons rfl (.int .i64 _) (repL_cons rfl (.str _) (repL_cons rfl (.int .i64 _) (repL_cons rfl (.bool _) (repL_cons rfl (.str _) (repL_cons rfl (.int .i64 _) (repL_nil _)))))))
instance:EncPV Asked:=⟨Asked.cs,fun w x vs h=>⟨by rw [(Asked.repL w x vs h).1];exact Enc.len h,(Asked.repL w x vs h).2⟩⟩
theorem Rule.repL (w:World) (x:Rule) (vs:List Value) (h:Enc.R (fun _=>True) w x vs):RepL (oldC w) x.cs vs:=by
 cases h
 exact repL_cons rfl (.bool _) (repL_cons rfl (.int .i64 _) (repL_cons rfl (.str _) (repL_cons rfl (.int .i64 _) (repL_cons rfl (.int .i64 _) (repL_cons rfl (.str _) (repL_nil _))))))
instance:EncPV Rule:=⟨Rule.cs,fun w x vs h=>⟨by rw [(Rule.repL w x vs h).1];exact Enc.len h,(Rule.repL w x vs h).2⟩⟩
theorem Guard.repL (w:World) (x:Guard) (vs:List Value) (h:Enc.R (fun _=>True) w x vs):RepL (oldC w) x.cs vs:=by
 cases h
 exact repL_cons rfl (.bool _) (repL_cons rfl (.str _) (repL_cons rfl (.int .i64 _) (repL_cons rfl (.str _) (repL_cons rfl (.str _) (repL_nil _)))))
instance:EncPV Guard:=⟨Guard.cs,fun w x vs h=>⟨by rw [(Guard.repL w x vs h).1];exact Enc.len h,(Guard.repL w x vs h).2⟩⟩
theorem Page.repL (w:World) (x:Page) (vs:List Value) (h:Enc.R (fun _=>True) w x vs):RepL (oldC w) x.cs vs:=by
 cases h
 exact repL_cons rfl (.int .i64 _) (repL_cons rfl (.str _) (repL_cons rfl (.str _) (repL_cons rfl (.int .i64 _) (repL_nil _))))
instance:EncPV Page:=⟨Page.cs,fun w x vs h=>⟨by rw [(Page.repL w x vs h).1];exact Enc.len h,(Page.repL w x vs h).2⟩⟩
theorem Group.repL (w:World) (x:Group) (vs:List Value) (h:Enc.R (fun _=>True) w x vs):RepL (oldC w) x.cs vs:=by
 obtain ⟨A0,n0,c0,rfl,h0⟩:=h
 exact repL_cons rfl (.str _) (repL_cons rfl (sl_of_SlR h0) (repL_nil _))
instance:EncPV Group:=⟨Group.cs,fun w x vs h=>⟨by rw [(Group.repL w x vs h).1];exact Enc.len h,(Group.repL w x vs h).2⟩⟩
theorem View.repL (w:World) (x:View) (vs:List Value) (h:Enc.R (fun _=>True) w x vs):RepL (oldC w) x.cs vs:=by
 obtain ⟨A0,n0,c0,A1,n1,c1,A2,n2,c2,A3,n3,c3,A4,n4,c4,A5,n5,c5,rfl,h0,h1,h2,h3,h4,h5⟩:=h
 exact repL_cons rfl (sl_of_SlR h0) (repL_cons rfl (sl_of_SlR h1) (repL_cons rfl (sl_of_SlR h2) (repL_cons rfl (sl_of_SlR h3) (repL_cons rfl (sl_of_SlR h4) (repL_cons rfl (.int .i64 _) (repL_cons rfl (sl_of_SlR h5) (repL_nil _)))))))
end Go.Proofs.YtphibahplgmgfaaGreatDoor
namespace Go.Proofs.YtphibahplgmgfaaGreatDoor
open VL Go.RowKit Go.ChangeShapes Go.WideShapes
set_option linter.unusedVariables false
theorem rdInts {H:Type} {enc:TypeId×Value→H} {W:World}:Rd enc Tryz.prog W 30 (List Int):=rd_slice Tryz.underlying30 cellsInt (by decide) rdInt
theorem rules_of {W:World} (h:laidMetH Tryz.prog [("unicode/utf8.acceptRanges",Rows.laid_unicode_utf8_acceptRanges),("transclude/edit.rules",Rows.laid_transclude_edit_rules),("unicode/utf8.first",Rows.laid_unicode_utf8_first)] W) :
  W.cell? ⟨0,0,none⟩=some (.int .i64 5)∧W.cell? ⟨0,1,none⟩=some (.string ⟨#[80,111,108,105,99,121]⟩):=by
 rw [MakeChecks.laidMetH_plain _ _ _ (by kernel_rfl)] at h
 obtain ⟨_,⟨_,_,_,_,_,_,_,_,_,_,⟨g,t,cs,fuel,p,q,hg,ht,hv,hd,_,_⟩,_⟩,_,_⟩:=h
 obtain rfl:=Option.some.inj ((show Tryz.prog.globalNamed "transclude/edit.rules" = some 0 by kernel_rfl).symm.trans hg)
 obtain rfl:=Option.some.inj ((show (Tryz.prog.globals[0]?).map (·.type)=some 29 by kernel_rfl).symm.trans ht)
 obtain ⟨y0,y1,n,ex,hl,h0,h1⟩:=trod_struct2 Tryz.underlying29 hd
 obtain ⟨z,e1,e2,_⟩:=DataW.trod_int Tryz.underlying3 h0
 obtain ⟨s,e3,e4,_⟩:=DataW.trod_string Tryz.underlying9 h1
 have c2:Tryz.prog.cellsOf 29=2:=by kernel_rfl
 have ci:Tryz.prog.cellsOf 3=1:=by kernel_rfl
 have cs1:Tryz.prog.cellsOf 9=1:=by kernel_rfl
 rw [c2] at hl
 rw [ci] at e1
 rw [cs1] at e3
 have hx:=(Prod.mk.inj ex).1
 simp only [Rows.laid_transclude_edit_rules,e2,e4,DataW.agg.injEq,List.cons.injEq,DataW.lit.injEq,Lit.int.injEq,Lit.string.injEq,true_and,and_true] at hx
 obtain ⟨rfl,hs⟩:=hx
 obtain rfl:s=⟨#[80,111,108,105,99,121]⟩:=by
  obtain ⟨⟨l⟩⟩:=s
  exact congrArg (fun l:List UInt8=>(⟨⟨l⟩⟩:ByteArray)) hs.symm
 obtain ⟨x0,x1,hcs⟩:=list2 hl
 rw [hcs] at e1 e3
 cases (show [x0] = [_] from e1)
 cases (show [x1] = [_] from e3)
 have hc0:=World.var?_cell hg hv 0
 have hc1:=World.var?_cell hg hv 1
 rw [← Array.getElem?_toList,hcs] at hc0 hc1
 exact ⟨hc0,hc1⟩
theorem inv_of {W:World} (hG:Glob W) (hR:W.cell? ⟨0,0,none⟩=some (.int .i64 5)∧W.cell? ⟨0,1,none⟩=some (.string ⟨#[80,111,108,105,99,121]⟩)) (W':World) (hb:Below W.heap.size W W'):WInv.I Tryz.prog W':=
 ⟨hG.imp fun _ hm=>re1 hb (cell_lt hm) hm,re1 hb (cell_lt hR.1) hR.1,re1 hb (cell_lt hR.2) hR.2⟩
theorem rep_struct {x:Ctx} {ps:List PV} {vs:List Value} (h:RepL x ps vs):Rep x (.agg ps) (.agg vs.toArray):=rep_agg h
end Go.Proofs.YtphibahplgmgfaaGreatDoor
namespace Go.Proofs.YtphibahplgmgfaaGreatDoor
open VL Go.RowKit
set_option linter.unusedVariables false
theorem slr_len {α:Type} [Enc α] {w:World} {A:Option Addr} {n c:Nat} {xs:List α} (h:SlR w A n c xs):xs.length≤9223372036854775807:=by
 obtain ⟨h1,h2,h3,h4⟩:=h
 omega
theorem view_fits {W:World} {v:View} {cs:List Value} (h:Enc.RT W v cs):v.fits:=by
 obtain ⟨A0,n0,c0,A1,n1,c1,A2,n2,c2,A3,n3,c3,A4,n4,c4,A5,n5,c5,e,h0,h1,h2,h3,h4,h5⟩:=h
 refine ⟨slr_len h0,slr_len h4,slr_len h5,slr_len h1,slr_len h2,slr_len h3,fun g hg=>?_⟩
 obtain ⟨i,hi,hgi⟩:=List.getElem_of_mem hg
 obtain ⟨q1,q2,q3,q4⟩:=h1
 obtain ⟨b,off,css,hA,_,hlt,hx⟩:=q4 (by omega)
 obtain ⟨hr,_⟩:=hx i g (by rw [List.getElem?_eq_getElem hi,hgi])
 obtain ⟨A,n,c,e,hm⟩:=hr
 exact slr_len hm
theorem args7 {x:Ctx} {p0 p1 p2 p3 p4 p5 p6:PV} {v0 v1 v2 v3 v4 v5 v6:Value} (h0:Rep x p0 v0) (h1:Rep x p1 v1) (h2:Rep x p2 v2) (h3:Rep x p3 v3) (h4:Rep x p4 v4) (h5:Rep x p5 v5) (h6:Rep x p6 v6) (i:Nat) (p:PV) (v:Value)
  (hp : [p0,p1,p2,p3,p4,p5,p6][i]? = some p) (hv : #[v0,v1,v2,v3,v4,v5,v6][i]? = some v):Rep x p v:=by
 match i,hp,hv with
 | 0,hp,hv=>injection hp with hp;injection hv with hv;subst hp hv;exact h0
 | 1,hp,hv=>injection hp with hp;injection hv with hv;subst hp hv;exact h1
 | 2,hp,hv=>injection hp with hp;injection hv with hv;subst hp hv;exact h2
 | 3,hp,hv=>injection hp with hp;injection hv with hv;subst hp hv;exact h3
 | 4,hp,hv=>injection hp with hp;injection hv with hv;subst hp hv;exact h4
 | 5,hp,hv=>injection hp with hp;injection hv with hv;subst hp hv;exact h5
 | 6,hp,hv=>injection hp with hp;injection hv with hv;subst hp hv;exact h6
 | i+7,hp,_=>simp at hp
theorem projectSame_any {a b:View} {ca cb:List Value} {A B:Option Addr} {n m c d:Nat} {l k:List Int} (who how x:Int) (W:World) (ha:Enc.RT W a ca) (hb:Enc.RT W b cb) (hl:SlR W A n c l) (hk:SlR W B m d k) (hI:∀ W',Below W.heap.size W W'→WInv.I Tryz.prog W') :
  Calls Tryz.prog 4 #[.agg ca.toArray,.agg cb.toArray,.slice A n c,.slice B m d,.int .i64 who,.int .i64 how,.int .i64 x] W fun e w'=>e = .returned (.bool true)∧Below W.heap.size W w':=
 calls_bool (w31_ProjectSame_c a b l k who how x true (law_same a b l k who how x (view_fits ha) (slr_len hl) (slr_len hk))) rfl
  (args7 (rep_struct (View.repL W a ca ha)) (rep_struct (View.repL W b cb hb)) (sl_of_SlR hl) (sl_of_SlR hk) (.int _ _) (.int _ _) (.int _ _)) hI
end Go.Proofs.YtphibahplgmgfaaGreatDoor
