/- Part Xl of the proof of CollectEnds: no condition. -/
import Derived.Test.YtmabojcaklojhaaGreatXk0
import Derived.Test.YtmabojcaklojhaaGreatXk1
import Derived.Test.YtmabojcaklojhaaGreatXk2
import Derived.Test.YtmabojcaklojhaaGreatXk3
import Derived.Test.YtmabojcaklojhaaGreatXk4
import Derived.Test.YtmabojcaklojhaaGreatXk5
import Derived.Test.YtmabojcaklojhaaGreatXk6
import Derived.Test.YtmabojcaklojhaaGreatXk7
import Derived.Test.YtmabojcaklojhaaGreatXk8
import Derived.Test.YtmabojcaklojhaaGreatXk9
import Derived.Test.YtmabojcaklojhaaGreatXk10
namespace Go.Rd
open Go.aI Go.RowKit Go.Rt Go.Proofs
theorem k45:R.okB (az Tryz.prog Φ7 aj aU L8 L9)=true:=ky (cE (k45_0) k45_1) (by rfl)
theorem k47:R.okB (az Tryz.prog Φ7 aj aU JV JW)=true:=ky (cE (cE (cE (cE (cE (cE (cE (cE (k47_0) k47_1) k47_2) k47_3) k47_4) k47_5) k47_6) k47_7) k47_8) (by rfl)
theorem k65:R.okB (az Tryz.prog Φ7 aj aU oe og)=true:=ky (cE (cE (cE (cE (cE (cE (cE (cE (cE (cE (cE (cE (cE (k65_0) k65_1) k65_2) k65_3) k65_4) k65_5) k65_6) k65_7) k65_8) k65_9) k65_10) k65_11) k65_12) k65_13) (by rfl)
theorem k77:R.okB (az Tryz.prog Φ7 aj aU Mg Mi)=true:=ky (cE (k77_0) k77_1) (by rfl)
theorem k131:R.okB (az Tryz.prog Φ7 aj aU (sD true) (sF true))=true:=ky (cE (k131_0) k131_1) (by rfl)
theorem k134:R.okB (az Tryz.prog Φ7 aj aU (qN true) (qO true))=true:=ky (cE (k134_0) k134_1) (by rfl)
theorem k139:R.okB (az Tryz.prog Φ7 aj aU (sD false) (sF false))=true:=ky (cE (k139_0) k139_1) (by rfl)
theorem k142:R.okB (az Tryz.prog Φ7 aj aU (qN false) (qO false))=true:=ky (cE (cE (k142_0) k142_1) k142_2) (by rfl)
set_option maxRecDepth 100000
theorem all_okB:∀e∈Vd,R.okB (az Tryz.prog Φ7 aj aU e.1 e.2)=true :=
 all_cons (p:=fun e:Sp×Gu=>R.okB (az Tryz.prog Φ7 aj aU e.1 e.2)=true) k0<|all_cons k1<|all_cons k2<|all_cons k3<|all_cons k4<|all_cons k5<|all_cons k6<|all_cons k7<|all_cons k8<|all_cons k9<|all_cons k10<|all_cons k11<|all_cons k12<|all_cons k13<|all_cons k14<|all_cons k15<|all_cons k16<|all_cons k17<|all_cons k18<|all_cons k19<|all_cons k20<|all_cons k21<|all_cons k22<|all_cons k23<|all_cons k24<|all_cons k25<|all_cons k26<|all_cons k27<|all_cons k28<|all_cons k29<|all_cons k30<|all_cons k31<|all_cons k32<|all_cons k33<|all_cons k34<|all_cons k35<|all_cons k36<|all_cons k37<|all_cons k38<|all_cons k39<|all_cons k40<|all_cons k41<|all_cons k42<|all_cons k43<|all_cons k44<|all_cons k45<|all_cons k46<|all_cons k47<|all_cons k48<|all_cons k49<|all_cons k50<|all_cons k51<|all_cons k52<|all_cons k53<|all_cons k54<|all_cons k55<|all_cons k56<|all_cons k57<|all_cons k58<|all_cons k59<|all_cons k60<|all_cons k61<|all_cons k62<|all_cons k63<|all_cons k64<|all_cons k65<|all_cons k66<|all_cons k67<|all_cons k68<|all_cons k69<|all_cons k70<|all_cons k71<|all_cons k72<|all_cons k73<|all_cons k74<|all_cons k75<|all_cons k76<|all_cons k77<|all_cons k78<|all_cons k79<|all_cons k80<|all_cons k81<|all_cons k82<|all_cons k83<|all_cons k84<|all_cons k85<|all_cons k86<|all_cons k87<|all_cons k88<|all_cons k89<|all_cons k90<|all_cons k91<|all_cons k92<|all_cons k93<|all_cons k94<|all_cons k95<|all_cons k96<|all_cons k97<|all_cons k98<|all_cons k99<|all_cons k100<|all_cons k101<|all_cons k102<|all_cons k103<|all_cons k104<|all_cons k105<|all_cons k106<|all_cons k107<|all_cons k108<|all_cons k109<|all_cons k110<|all_cons k111<|all_cons k112<|all_cons k113<|all_cons k114<|all_cons k115<|all_cons k116<|all_cons k117<|all_cons k118<|all_cons k119<|all_cons k120<|all_cons k121<|all_cons k122<|all_cons k123<|all_cons k124<|all_cons k125<|all_cons k126<|all_cons k127<|all_cons k128<|all_cons k129<|all_cons k130<|all_cons k131<|all_cons k132<|all_cons k133<|all_cons k134<|all_cons k135<|all_cons k136<|all_cons k137<|all_cons k138<|all_cons k139<|all_cons k140<|all_cons k141<|all_cons k142<|all_cons k143<|all_cons k144<|all_cons k145<|all_cons k146<|all_cons k147<|all_cons k148<|all_cons k149<|all_cons k150<|all_cons k151<|all_nil
theorem Qr:∀e∈Vd,(az Tryz.prog Φ7 aj aU e.1 e.2).Ok:=fun e he=>R.di (all_okB e he)
end Go.Rd
